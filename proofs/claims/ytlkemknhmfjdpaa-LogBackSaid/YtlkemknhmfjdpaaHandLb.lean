import Derived.Test.YtlkemknhmfjdpaaHandA6
import Derived.Test.YtlkemknhmfjdpaaHandI
import Derived.Test.YtlkemknhmfjdpaaHandZ
import Derived.Test.YtlkemknhmfjdpaaHandAw
/- ParseItem, by hand. -/
namespace Go.Proofs.Ytlkemknhmfjdpaa.P
open Go.RowKit Go.Proofs.YtlkemknhmfjdpaaW.PrintWords Go.Proofs.YtlkemknhmfjdpaaW.PrintLast Go.Proofs.YtlkemknhmfjdpaaW.PrintMore
attribute [local go_sem] max2_int min2_int max_two min_two max_three min_three max_four min_four
set_option linter.unusedVariables false
set_option linter.unusedSimpArgs false

theorem alloc2_new (w : World) (o1 o2 : Obj) : ((w.alloc o1).alloc o2).heap[w.heap.size + 1]? = some o2 := by
  have := heap_alloc_new (w.alloc o1) o2
  simpa using this
set_option maxHeartbeats 4000000 in
theorem rec_id (n e0 rr m : Int) (A : Option Addr) (k c : Nat) (w : World) : Calls Try.prog 14 #[.agg #[.int .u64 n, .int .u64 e0, .int .i64 rr, .int .u64 m, .slice A k c]] w fun e w' => e = .returned (.agg #[.int .u64 n, .int .u64 e0, .int .i64 rr, .int .u64 m, .slice A k c]) ∧ Below w.heap.size w w' := by
  go_enter Try.func14, Try.ntmps14
  go_wp2
  refine bodyPost_ret (results_cell_row rfl _ _ (w.heap.size + 1) 42 #[.int .u64 n, .int .u64 e0, .int .i64 rr, .int .u64 m, .slice A k c] (0, 0) _ rfl (alloc2_new _ _ _) Try.underlying42 rfl (by kernel_rfl)) rfl ?_
  exact ⟨rfl, below_alloc (below_alloc (Below.refl _ _) _) _⟩
theorem bk0 {W W1 : World} {i : Nat} {o : Obj} (h : W.heap[i]? = some o) (hb : Below W.heap.size W W1) : W1.heap[i]? = some o := (hb.block i (blk_lt h)).trans h
set_option maxHeartbeats 8000000 in
set_option maxRecDepth 100000 in
theorem stable_id (ep inc n e0 rr m : Int) (A : Option Addr) (k c : Nat) (w : World) : Calls Try.prog 10 #[.agg #[.int .u64 ep, .int .u32 inc, .int .u64 n, .int .u64 e0, .int .i64 rr, .int .u64 m, .slice A k c]] w fun e w' => e = .returned (.agg #[.int .u64 ep, .int .u32 inc, .int .u64 n, .int .u64 e0, .int .i64 rr, .int .u64 m, .slice A k c]) ∧ Below w.heap.size w w' := by
  go_enter Try.func10, Try.ntmps10
  go_wp2
  have X0 := Aside0.mk (show ((w.alloc (.cells #[.int .u64 ep, .int .u32 inc, .int .u64 n, .int .u64 e0, .int .i64 rr, .int .u64 m, .slice A k c] 32)).alloc (.cells #[.int .u64 0, .int .u32 0, .int .u64 0, .int .u64 0, .int .i64 0, .int .u64 0, .slice none 0 0] 44)).drew.heap[w.heap.size]? = some (.cells #[.int .u64 ep, .int .u32 inc, .int .u64 n, .int .u64 e0, .int .i64 rr, .int .u64 m, .slice A k c] 32 (0, 0)) from heap_old1 (heap_alloc_new w _) _)
  refine start_ (n := 9) (S := fun w' : World => w'.cell? ⟨w.heap.size, 0, none⟩ = some (.int .u64 ep) ∧ w'.cell? ⟨w.heap.size, 1, none⟩ = some (.int .u32 inc) ∧ w'.cell? ⟨w.heap.size, 2, none⟩ = some (.int .u64 n) ∧ w'.cell? ⟨w.heap.size, 3, none⟩ = some (.int .u64 e0) ∧ w'.cell? ⟨w.heap.size, 4, none⟩ = some (.int .i64 rr) ∧ w'.cell? ⟨w.heap.size, 5, none⟩ = some (.int .u64 m) ∧ w'.cell? ⟨w.heap.size, 6, none⟩ = some (.slice A k c)) (ds := [8]) #[false, false, false, false, false, false, false, false, false] (by kernel_rfl) rfl rfl ⟨cellAt (i := 0) X0.out rfl, cellAt (i := 1) X0.out rfl, cellAt (i := 2) X0.out rfl, cellAt (i := 3) X0.out rfl, cellAt (i := 4) X0.out rfl, cellAt (i := 5) X0.out rfl, cellAt (i := 6) X0.out rfl⟩ (fun hHeld => ?_)
  clear X0
  have X1 := Aside0.mk (show ((w.alloc (.cells #[.int .u64 ep, .int .u32 inc, .int .u64 n, .int .u64 e0, .int .i64 rr, .int .u64 m, .slice A k c] 32)).alloc (.cells #[.int .u64 0, .int .u32 0, .int .u64 0, .int .u64 0, .int .i64 0, .int .u64 0, .slice none 0 0] 44)).drew.heap[w.heap.size]? = some (.cells #[.int .u64 ep, .int .u32 inc, .int .u64 n, .int .u64 e0, .int .i64 rr, .int .u64 m, .slice A k c] 32 (0, 0)) from heap_old1 (heap_alloc_new w _) _)
  have Y1 := Aside0.mk (show ((w.alloc (.cells #[.int .u64 ep, .int .u32 inc, .int .u64 n, .int .u64 e0, .int .i64 rr, .int .u64 m, .slice A k c] 32)).alloc (.cells #[.int .u64 0, .int .u32 0, .int .u64 0, .int .u64 0, .int .i64 0, .int .u64 0, .slice none 0 0] 44)).drew.heap[w.heap.size + 1]? = some (.cells #[.int .u64 0, .int .u32 0, .int .u64 0, .int .u64 0, .int .i64 0, .int .u64 0, .slice none 0 0] 44 (0, 0)) from alloc2_new w _ _)
  have HB1 := Aside0.mk (show Below w.heap.size w ((w.alloc (.cells #[.int .u64 ep, .int .u32 inc, .int .u64 n, .int .u64 e0, .int .i64 rr, .int .u64 m, .slice A k c] 32)).alloc (.cells #[.int .u64 0, .int .u32 0, .int .u64 0, .int .u64 0, .int .i64 0, .int .u64 0, .slice none 0 0] 44)).drew from below_drew (below_alloc (below_alloc (Below.refl _ _) _) _))
  generalize ((w.alloc (.cells #[.int .u64 ep, .int .u32 inc, .int .u64 n, .int .u64 e0, .int .i64 rr, .int .u64 m, .slice A k c] 32)).alloc (.cells #[.int .u64 0, .int .u32 0, .int .u64 0, .int .u64 0, .int .i64 0, .int .u64 0, .slice none 0 0] 44)).drew = wd at X1 Y1 HB1 hHeld ⊢
  refine pure_ (i := 0) (N := some 3) (v := ?_) (a' := ?_) #[true, false, false, false, false, false, false, false, false] rfl rfl (by kernel_rfl) (fun _ _ _ h => h) (Or.inl ⟨by rfl, ?_⟩) ?_ ?_
  rotate_left
  · intro w'
    go_simp
    with_reducible rfl
  rotate_left
  · simp only [Act.put, List.setIfInBounds_toArray, List.set_cons_zero, List.set_cons_succ, i64_w, i32_w]
    rfl
  refine take_ (i := 1) (N := some 4) (v := ?_) (a' := ?_) #[true, true, false, false, false, false, false, false, false] rfl rfl (by kernel_rfl) (fun _ _ _ h => h) (Or.inl ⟨by rfl, ?_⟩) hHeld ?_ ?_
  rotate_left
  · rintro w' ⟨s0, s1, s2, s3, s4, s5, s6⟩
    go_simp
    with_reducible rfl
  rotate_left
  · simp only [Act.put, List.setIfInBounds_toArray, List.set_cons_zero, List.set_cons_succ, i64_w, i32_w]
    rfl
  refine pure_ (i := 2) (N := some 5) (v := ?_) (a' := ?_) #[true, true, true, false, false, false, false, false, false] rfl rfl (by kernel_rfl) (fun _ _ _ h => h) (Or.inl ⟨by rfl, ?_⟩) ?_ ?_
  rotate_left
  · intro w'
    go_simp
    with_reducible rfl
  rotate_left
  · simp only [Act.put, List.setIfInBounds_toArray, List.set_cons_zero, List.set_cons_succ, i64_w, i32_w]
    rfl
  refine take_ (i := 3) (N := some 6) (v := ?_) (a' := ?_) #[true, true, true, true, false, false, false, false, false] rfl rfl (by kernel_rfl) (fun _ _ _ h => h) (Or.inl ⟨by rfl, ?_⟩) hHeld ?_ ?_
  rotate_left
  · rintro w' ⟨s0, s1, s2, s3, s4, s5, s6⟩
    go_simp
    with_reducible rfl
  rotate_left
  · simp only [Act.put, List.setIfInBounds_toArray, List.set_cons_zero, List.set_cons_succ, i64_w, i32_w]
    rfl
  refine pure_ (i := 4) (N := some 7) (v := ?_) (a' := ?_) #[true, true, true, true, true, false, false, false, false] rfl rfl (by kernel_rfl) (fun _ _ _ h => h) (Or.inl ⟨by rfl, ?_⟩) ?_ ?_
  rotate_left
  · intro w'
    go_simp
    with_reducible rfl
  rotate_left
  · simp only [Act.put, List.setIfInBounds_toArray, List.set_cons_zero, List.set_cons_succ, i64_w, i32_w]
    rfl
  refine take_ (i := 5) (N := some 8) (v := ?_) (a' := ?_) #[true, true, true, true, true, true, false, false, false] rfl rfl (by kernel_rfl) (fun _ _ _ h => h) (Or.inl ⟨by rfl, ?_⟩) hHeld ?_ ?_
  rotate_left
  · rintro w' ⟨s0, s1, s2, s3, s4, s5, s6⟩
    go_simp
    with_reducible rfl
  rotate_left
  · simp only [Act.put, List.setIfInBounds_toArray, List.set_cons_zero, List.set_cons_succ, i64_w, i32_w]
    rfl
  refine one_ (i := 6) (N := some 9) #[true, true, true, true, true, true, true, false, false] rfl rfl (by kernel_rfl) (by decide) (fun K hK => ?_)
  refine goes_ Try.func14 (by kernel_rfl) rfl #[.agg #[.int .u64 n, .int .u64 e0, .int .i64 rr, .int .u64 m, .slice A k c]] (by rfl) rfl rfl (by (try simp only [List.map_toArray, List.map_cons, List.map_nil]); first | done | rfl) ?_
  with_reducible refine (rec_id n e0 rr m A k c wd).mono ?_
  rintro e w5 ⟨rfl, hb⟩
  refine ⟨_, rfl, ?_⟩
  have X5 := Aside0.mk (bk0 X1.out hb)
  have Y5 := Aside0.mk (bk0 Y1.out hb)
  have HB5 := Aside0.mk (below_step HB1.out hb)
  clear hb
  refine hK.out _ _ ⟨cellAt (i := 0) X5.out rfl, cellAt (i := 1) X5.out rfl, cellAt (i := 2) X5.out rfl, cellAt (i := 3) X5.out rfl, cellAt (i := 4) X5.out rfl, cellAt (i := 5) X5.out rfl, cellAt (i := 6) X5.out rfl⟩ (fun hHeld => ?_)
  clear hK K
  refine norm_ (a' := ?_) ?_ ?_
  rotate_left
  · show Act.put _ (some 9) _ = _
    simp only [Act.put, List.setIfInBounds_toArray, List.set_cons_zero, List.set_cons_succ, i64_w, i32_w]
    rfl
  refine pure_ (i := 7) (N := some 10) (v := ?_) (a' := ?_) #[true, true, true, true, true, true, true, true, false] rfl rfl (by kernel_rfl) (fun _ _ _ h => h) (Or.inl ⟨by rfl, ?_⟩) ?_ ?_
  rotate_left
  · intro w'
    go_simp
    with_reducible rfl
  rotate_left
  · simp only [Act.put, List.setIfInBounds_toArray, List.set_cons_zero, List.set_cons_succ, i64_w, i32_w]
    rfl
  have s0 := cellAt (i := 0) Y5.out rfl
  have s1 := cellAt (i := 1) Y5.out rfl
  have s2 := cellAt (i := 2) Y5.out rfl
  have s3 := cellAt (i := 3) Y5.out rfl
  have s4 := cellAt (i := 4) Y5.out rfl
  have s5 := cellAt (i := 5) Y5.out rfl
  have s6 := cellAt (i := 6) Y5.out rfl
  have f0 := blk_frozen Y5.out 0
  have f1 := blk_frozen Y5.out 1
  have f2 := blk_frozen Y5.out 2
  have f3 := blk_frozen Y5.out 3
  have f4 := blk_frozen Y5.out 4
  have f5 := blk_frozen Y5.out 5
  have f6 := blk_frozen Y5.out 6
  refine last_ (i := 8) (N := none) #[true, true, true, true, true, true, true, true, true] rfl rfl (by kernel_rfl) (by decide) (fun K hK => ?_)
  refine skip_ (w1 := ?_) (by rfl) rfl ?_ ?_
  rotate_left
  · go_simp
    rfl
  refine hK.out _ _ ?_
  clear hK K
  refine done_ (by kernel_rfl) ?_
  go_wp2
  refine bodyPost_ret (results_cell_row rfl _ _ (w.heap.size + 1) 44 #[.int .u64 ep, .int .u32 inc, .int .u64 n, .int .u64 e0, .int .i64 rr, .int .u64 m, .slice A k c] (0, 0) _ rfl (blk_set (blk_set (blk_set (blk_set (blk_set (blk_set (blk_set Y5.out 0 (.int .u64 ep)) 1 (.int .u32 inc)) 2 (.int .u64 n)) 3 (.int .u64 e0)) 4 (.int .i64 rr)) 5 (.int .u64 m)) 6 (.slice A k c)) Try.underlying44 rfl (by kernel_rfl)) rfl ?_
  exact ⟨rfl, (below_set (below_set (below_set (below_set (below_set (below_set (below_set HB5.out (Nat.le_succ _)) (Nat.le_succ _)) (Nat.le_succ _)) (Nat.le_succ _)) (Nat.le_succ _)) (Nat.le_succ _)) (Nat.le_succ _))⟩
end Go.Proofs.Ytlkemknhmfjdpaa.P
/- ParseItem, by hand. -/
namespace Go.Proofs.Ytlkemknhmfjdpaa.P
open Go.RowKit Go.Proofs.YtlkemknhmfjdpaaW.PrintWords Go.Proofs.YtlkemknhmfjdpaaW.PrintLast Go.Proofs.YtlkemknhmfjdpaaW.PrintMore
attribute [local go_sem] max2_int min2_int max_two min_two max_three min_three max_four min_four
set_option linter.unusedVariables false
set_option linter.unusedSimpArgs false

/-- What the laws' own blocks hold: the stable record, the item. -/
structure LB (w W : World) (cs cx : Array Value) : Prop where
  bel : Below w.heap.size w W
  s_ : W.heap[w.heap.size]? = some (.cells cs 32 (0, 0))
  x_ : W.heap[w.heap.size + 1]? = some (.cells cx 34 (0, 0))
theorem LB.start (w : World) (cs cx : Array Value) : LB w ((w.alloc (.cells cs 32)).alloc (.cells cx 34)) cs cx :=
  ⟨below_alloc (below_alloc (Below.refl _ _) _) _, heap_old1 (heap_alloc_new w _) _, alloc2_new w _ _⟩
theorem LB.below {w W W1 : World} {cs cx : Array Value} (h : LB w W cs cx) (hb : Below W.heap.size W W1) : LB w W1 cs cx := ⟨below_step h.bel hb, bk0 h.s_ hb, bk0 h.x_ hb⟩
theorem LB.setx {w W : World} {cs cx : Array Value} (h : LB w W cs cx) (i : Nat) (u : Value) : LB w (W.setCell ⟨w.heap.size + 1, i, none⟩ u) cs (cx.setIfInBounds i u) :=
  ⟨below_set h.bel (Nat.le_succ _), blk_far h.s_ (show w.heap.size ≠ w.heap.size + 1 by omega) u, blk_set h.x_ i u⟩
theorem LB.row {w W : World} {cs cx : Array Value} (h : LB w W cs cx) {A : Option Addr} {l : List S27} (hC : Kd.C k27 w A l.length l) : Kd.C k27 W A l.length l :=
  C27_keep hC h.bel (KeepBut.refl _ w.heap.size _) (Nat.le_refl _)
theorem strOf_size (xs : List Int) : (strOfNums xs).size = xs.length := by simp [strOfNums, ByteArray.size]
theorem flat_sB : ∀ l : List S27, (l.flatMap sB).length = 25 * l.length
  | [] => rfl
  | x :: l => by
    rw [List.flatMap_cons, List.length_append, flat_sB l, List.length_cons]
    have : (sB x).length = 25 := by simp [sB, vB, Pure.putL_length]
    omega
theorem recB_len (n ep rep mem : Int) (l : List S27) : (recB n ep rep mem l).length = 26 + 25 * l.length := by
  simp only [recB, vB, List.length_append, Pure.putL_length, flat_sB]
/-- The sizes of what is printed. -/
theorem sizes_is (a0 a1 n e0 rr m : Int) (l : List S27) (d : ByteArray) (inc holds : Int) (has dir : Bool) (vn ve vr vm nb ix tt : Int) :
    ∃ t u : ByteArray, ∃ e : Int, logPrint a0 a1 n e0 rr m l = (t, e) ∧ logItem 2 d inc holds has dir n e0 rr m l vn ve vr vm nb ix tt = (u, e) ∧ t.size ≤ 8192 ∧ u.size ≤ 1024 ∧ (e = 0 → t.size = 39 + 25 * l.length ∧ u.size = 40 + 25 * l.length) := by
  have hI : logItem 2 d inc holds has dir n e0 rr m l vn ve vr vm nb ix tt = (if rr < 0 ∨ 64 ≤ rr then (⟨#[]⟩, 1) else if 32 < l.length then (⟨#[]⟩, 3) else if ∀ x ∈ l, sOk x then (strOfNums (([] ++ Pure.putL 2 1 ++ Pure.putL inc 4 ++ Pure.putL holds 8 ++ Pure.putL (flagsN has dir) 1) ++ recB n e0 rr m l), 0) else (⟨#[]⟩, 1)) := by
    rw [logItem, if_neg (by decide), if_neg (by decide), if_neg (by decide), if_pos rfl]
  rw [hI, logPrint]
  by_cases d1 : rr < 0 ∨ 64 ≤ rr
  · rw [if_pos d1, if_pos d1]
    exact ⟨_, _, _, rfl, rfl, by decide, by decide, fun h => absurd h (by decide)⟩
  rw [if_neg d1, if_neg d1]
  by_cases d2 : 32 < l.length
  · rw [if_pos d2, if_pos d2]
    exact ⟨_, _, _, rfl, rfl, by decide, by decide, fun h => absurd h (by decide)⟩
  rw [if_neg d2, if_neg d2]
  by_cases d3 : ∀ x ∈ l, sOk x
  · rw [if_pos d3, if_pos d3]
    have s1 : (strOfNums ([] ++ Pure.putL 1 1 ++ Pure.putL a0 8 ++ Pure.putL a1 4 ++ recB n e0 rr m l)).size = 39 + 25 * l.length := by
      rw [strOf_size]
      simp only [List.length_append, Pure.putL_length, recB_len, List.length_nil]
      omega
    have s2 : (strOfNums (([] ++ Pure.putL 2 1 ++ Pure.putL inc 4 ++ Pure.putL holds 8 ++ Pure.putL (flagsN has dir) 1) ++ recB n e0 rr m l)).size = 40 + 25 * l.length := by
      rw [strOf_size]
      simp only [List.length_append, Pure.putL_length, recB_len, List.length_nil]
      omega
    exact ⟨_, _, _, rfl, rfl, by rw [s1]; omega, by rw [s2]; omega, fun _ => ⟨s1, s2⟩⟩
  · rw [if_neg d3, if_neg d3]
    exact ⟨_, _, _, rfl, rfl, by decide, by decide, fun h => absurd h (by decide)⟩
set_option maxHeartbeats 8000000 in
set_option maxRecDepth 100000 in
theorem sizes_e1 (a0 a1 n e0 rr m : Int) (A : Option Addr) (c : Nat) (l : List S27) (k : Int) (d : ByteArray) (inc holds : Int) (has dir : Bool) (rn re r3 rm : Int) (A2 : Option Addr) (c2 : Nat) (l2 : List S27) (vn ve vr vm nb ix tt : Int) (w : World) (h1 : 300 < l.length) : Calls Try.prog 4 #[.agg #[.int .u64 a0, .int .u32 a1, .int .u64 n, .int .u64 e0, .int .i64 rr, .int .u64 m, .slice A l.length c], .agg #[.int .i64 k, .string d, .int .u32 inc, .int .u64 holds, .bool has, .bool dir, .int .u64 rn, .int .u64 re, .int .i64 r3, .int .u64 rm, .slice A2 l2.length c2, .int .u64 vn, .int .u64 ve, .int .i64 vr, .int .u64 vm, .int .u64 nb, .int .i64 ix, .int .i64 tt]] w fun e w' => e = .returned (.bool true) ∧ Below w.heap.size w w' := by
  have b0 : decide (300 < (l.length : Int)) = true := decide_eq_true (by omega)
  clear h1
  go_enter Try.func4, Try.ntmps4
  go_wp2_with (first | (go_at_call 6; (with_reducible refine (consortlaw19_awake.calls true _ rfl).mono ?_); rintro e w1 ⟨rfl, hb⟩; have H1 := Aside0.mk ((LB.start w #[.int .u64 a0, .int .u32 a1, .int .u64 n, .int .u64 e0, .int .i64 rr, .int .u64 m, .slice A l.length c] #[.int .i64 k, .string d, .int .u32 inc, .int .u64 holds, .bool has, .bool dir, .int .u64 rn, .int .u64 re, .int .i64 r3, .int .u64 rm, .slice A2 l2.length c2, .int .u64 vn, .int .u64 ve, .int .i64 vr, .int .u64 vm, .int .u64 nb, .int .i64 ix, .int .i64 tt]).below hb); have s6 := cellAt (i := 6) H1.out.s_ rfl; have x10 := cellAt (i := 10) H1.out.x_ rfl; have x1 := cellAt (i := 1) H1.out.x_ rfl; clear hb))
  go_ret
  exact ⟨rfl, H1.out.bel⟩
set_option maxHeartbeats 8000000 in
set_option maxRecDepth 100000 in
theorem sizes_e2 (a0 a1 n e0 rr m : Int) (A : Option Addr) (c : Nat) (l : List S27) (k : Int) (d : ByteArray) (inc holds : Int) (has dir : Bool) (rn re r3 rm : Int) (A2 : Option Addr) (c2 : Nat) (l2 : List S27) (vn ve vr vm nb ix tt : Int) (w : World) (h1 : l.length ≤ 300) (h2 : 300 < l2.length) : Calls Try.prog 4 #[.agg #[.int .u64 a0, .int .u32 a1, .int .u64 n, .int .u64 e0, .int .i64 rr, .int .u64 m, .slice A l.length c], .agg #[.int .i64 k, .string d, .int .u32 inc, .int .u64 holds, .bool has, .bool dir, .int .u64 rn, .int .u64 re, .int .i64 r3, .int .u64 rm, .slice A2 l2.length c2, .int .u64 vn, .int .u64 ve, .int .i64 vr, .int .u64 vm, .int .u64 nb, .int .i64 ix, .int .i64 tt]] w fun e w' => e = .returned (.bool true) ∧ Below w.heap.size w w' := by
  have b0 : decide (300 < (l.length : Int)) = false := decide_eq_false (by omega)
  have b1 : decide (300 < (l2.length : Int)) = true := decide_eq_true (by omega)
  clear h1 h2
  go_enter Try.func4, Try.ntmps4
  go_wp2_with (first | (go_at_call 6; (with_reducible refine (consortlaw19_awake.calls true _ rfl).mono ?_); rintro e w1 ⟨rfl, hb⟩; have H1 := Aside0.mk ((LB.start w #[.int .u64 a0, .int .u32 a1, .int .u64 n, .int .u64 e0, .int .i64 rr, .int .u64 m, .slice A l.length c] #[.int .i64 k, .string d, .int .u32 inc, .int .u64 holds, .bool has, .bool dir, .int .u64 rn, .int .u64 re, .int .i64 r3, .int .u64 rm, .slice A2 l2.length c2, .int .u64 vn, .int .u64 ve, .int .i64 vr, .int .u64 vm, .int .u64 nb, .int .i64 ix, .int .i64 tt]).below hb); have s6 := cellAt (i := 6) H1.out.s_ rfl; have x10 := cellAt (i := 10) H1.out.x_ rfl; have x1 := cellAt (i := 1) H1.out.x_ rfl; clear hb))
  go_ret
  exact ⟨rfl, H1.out.bel⟩
set_option maxHeartbeats 8000000 in
set_option maxRecDepth 100000 in
theorem sizes_e3 (a0 a1 n e0 rr m : Int) (A : Option Addr) (c : Nat) (l : List S27) (k : Int) (d : ByteArray) (inc holds : Int) (has dir : Bool) (rn re r3 rm : Int) (A2 : Option Addr) (c2 : Nat) (l2 : List S27) (vn ve vr vm nb ix tt : Int) (w : World) (h1 : l.length ≤ 300) (h2 : l2.length ≤ 300) (h3 : 5000 < d.size) : Calls Try.prog 4 #[.agg #[.int .u64 a0, .int .u32 a1, .int .u64 n, .int .u64 e0, .int .i64 rr, .int .u64 m, .slice A l.length c], .agg #[.int .i64 k, .string d, .int .u32 inc, .int .u64 holds, .bool has, .bool dir, .int .u64 rn, .int .u64 re, .int .i64 r3, .int .u64 rm, .slice A2 l2.length c2, .int .u64 vn, .int .u64 ve, .int .i64 vr, .int .u64 vm, .int .u64 nb, .int .i64 ix, .int .i64 tt]] w fun e w' => e = .returned (.bool true) ∧ Below w.heap.size w w' := by
  have b0 : decide (300 < (l.length : Int)) = false := decide_eq_false (by omega)
  have b1 : decide (300 < (l2.length : Int)) = false := decide_eq_false (by omega)
  have b2 : decide (5000 < (d.size : Int)) = true := decide_eq_true (by omega)
  clear h1 h2 h3
  go_enter Try.func4, Try.ntmps4
  go_wp2_with (first | (go_at_call 6; (with_reducible refine (consortlaw19_awake.calls true _ rfl).mono ?_); rintro e w1 ⟨rfl, hb⟩; have H1 := Aside0.mk ((LB.start w #[.int .u64 a0, .int .u32 a1, .int .u64 n, .int .u64 e0, .int .i64 rr, .int .u64 m, .slice A l.length c] #[.int .i64 k, .string d, .int .u32 inc, .int .u64 holds, .bool has, .bool dir, .int .u64 rn, .int .u64 re, .int .i64 r3, .int .u64 rm, .slice A2 l2.length c2, .int .u64 vn, .int .u64 ve, .int .i64 vr, .int .u64 vm, .int .u64 nb, .int .i64 ix, .int .i64 tt]).below hb); have s6 := cellAt (i := 6) H1.out.s_ rfl; have x10 := cellAt (i := 10) H1.out.x_ rfl; have x1 := cellAt (i := 1) H1.out.x_ rfl; clear hb))
  go_ret
  exact ⟨rfl, H1.out.bel⟩
end Go.Proofs.Ytlkemknhmfjdpaa.P
/- ParseItem, by hand. -/
namespace Go.Proofs.Ytlkemknhmfjdpaa.P
open Go.RowKit Go.Proofs.YtlkemknhmfjdpaaW.PrintWords Go.Proofs.YtlkemknhmfjdpaaW.PrintLast Go.Proofs.YtlkemknhmfjdpaaW.PrintMore
attribute [local go_sem] max2_int min2_int max_two min_two max_three min_three max_four min_four
set_option linter.unusedVariables false
set_option linter.unusedSimpArgs false

set_option maxHeartbeats 8000000 in
set_option maxRecDepth 100000 in
theorem sizes_bad (a0 a1 n e0 rr m : Int) (A : Option Addr) (c : Nat) (l : List S27) (k : Int) (d : ByteArray) (inc holds : Int) (has dir : Bool) (rn re r3 rm : Int) (A2 : Option Addr) (c2 : Nat) (l2 : List S27) (vn ve vr vm nb ix tt : Int) (w : World) (h1 : l.length ≤ 300) (h2 : l2.length ≤ 300) (h3 : d.size ≤ 5000) (hC : Kd.C k27 w A l.length l) (hcc : l.length ≤ c) (t u : ByteArray) (e : Int) (hp : log_Print.f a0 a1 n e0 rr m l = some (t, e)) (hi : log_PrintItem.f 2 d inc holds has dir n e0 rr m l vn ve vr vm nb ix tt = some (u, e)) (h4 : t.size ≤ 8192) (h5 : u.size ≤ 1024) (h6 : e ≠ 0) : Calls Try.prog 4 #[.agg #[.int .u64 a0, .int .u32 a1, .int .u64 n, .int .u64 e0, .int .i64 rr, .int .u64 m, .slice A l.length c], .agg #[.int .i64 k, .string d, .int .u32 inc, .int .u64 holds, .bool has, .bool dir, .int .u64 rn, .int .u64 re, .int .i64 r3, .int .u64 rm, .slice A2 l2.length c2, .int .u64 vn, .int .u64 ve, .int .i64 vr, .int .u64 vm, .int .u64 nb, .int .i64 ix, .int .i64 tt]] w fun e w' => e = .returned (.bool true) ∧ Below w.heap.size w w' := by
  have b0 : decide (300 < (l.length : Int)) = false := decide_eq_false (by omega)
  have b1 : decide (300 < (l2.length : Int)) = false := decide_eq_false (by omega)
  have b2 : decide (5000 < (d.size : Int)) = false := decide_eq_false (by omega)
  have b3 : decide (8192 < (t.size : Int)) = false := decide_eq_false (by omega)
  have b4 : decide (1024 < (u.size : Int)) = false := decide_eq_false (by omega)
  have HC := Aside0.mk (show _ ∧ _ ∧ _ ∧ _ from ⟨hC, hcc, hp, hi⟩)
  have q0 : (e != 0) = true := bne_iff_ne.mpr h6
  clear h6
  clear hC hcc hp hi h1 h2 h3 h4 h5
  go_enter Try.func4, Try.ntmps4
  go_upto_region 8 with (first | (go_at_call 6; (with_reducible refine (consortlaw19_awake.calls true _ rfl).mono ?_); rintro e w1 ⟨rfl, hb⟩; have H1 := Aside0.mk ((LB.start w #[.int .u64 a0, .int .u32 a1, .int .u64 n, .int .u64 e0, .int .i64 rr, .int .u64 m, .slice A l.length c] #[.int .i64 k, .string d, .int .u32 inc, .int .u64 holds, .bool has, .bool dir, .int .u64 rn, .int .u64 re, .int .i64 r3, .int .u64 rm, .slice A2 l2.length c2, .int .u64 vn, .int .u64 ve, .int .i64 vr, .int .u64 vm, .int .u64 nb, .int .i64 ix, .int .i64 tt]).below hb); have s6 := cellAt (i := 6) H1.out.s_ rfl; have x10 := cellAt (i := 10) H1.out.x_ rfl; have x1 := cellAt (i := 1) H1.out.x_ rfl; have s0 := cellAt (i := 0) H1.out.s_ rfl; have s1 := cellAt (i := 1) H1.out.s_ rfl; have s2 := cellAt (i := 2) H1.out.s_ rfl; have s3 := cellAt (i := 3) H1.out.s_ rfl; have s4 := cellAt (i := 4) H1.out.s_ rfl; have s5 := cellAt (i := 5) H1.out.s_ rfl; clear hb) | (go_at_call 7; (with_reducible refine (log_Print.calls a0 a1 n e0 rr m A c l t e _ (H1.out.row HC.out.1) HC.out.2.1 HC.out.2.2.1).mono ?_); clear s0 s1 s2 s3 s4 s5 s6 x1 x10; rintro _ w2 ⟨rfl, hb⟩; have H2 := Aside0.mk (H1.out.below hb); have s2 := cellAt (i := 2) H2.out.s_ rfl; have s3 := cellAt (i := 3) H2.out.s_ rfl; have s4 := cellAt (i := 4) H2.out.s_ rfl; have s5 := cellAt (i := 5) H2.out.s_ rfl; have s6 := cellAt (i := 6) H2.out.s_ rfl;have x0 := cellAt (i := 0) H2.out.x_ rfl; have f0 := blk_frozen H2.out.x_ 0; have x6 := cellAt (i := 6) H2.out.x_ rfl; have f6 := blk_frozen H2.out.x_ 6; have x7 := cellAt (i := 7) H2.out.x_ rfl; have f7 := blk_frozen H2.out.x_ 7; have x8 := cellAt (i := 8) H2.out.x_ rfl; have f8 := blk_frozen H2.out.x_ 8; have x9 := cellAt (i := 9) H2.out.x_ rfl; have f9 := blk_frozen H2.out.x_ 9; have x10 := cellAt (i := 10) H2.out.x_ rfl; have f10 := blk_frozen H2.out.x_ 10; clear hb))
  have H3 := Aside0.mk (show LB w ((((((w2.setCell ⟨w.heap.size + 1, 0, none⟩ (.int .i64 2)).setCell ⟨w.heap.size + 1, 6, none⟩ (.int .u64 n)).setCell ⟨w.heap.size + 1, 7, none⟩ (.int .u64 e0)).setCell ⟨w.heap.size + 1, 8, none⟩ (.int .i64 rr)).setCell ⟨w.heap.size + 1, 9, none⟩ (.int .u64 m)).setCell ⟨w.heap.size + 1, 10, none⟩ (.slice A l.length c)) #[.int .u64 a0, .int .u32 a1, .int .u64 n, .int .u64 e0, .int .i64 rr, .int .u64 m, .slice A l.length c] #[.int .i64 2, .string d, .int .u32 inc, .int .u64 holds, .bool has, .bool dir, .int .u64 n, .int .u64 e0, .int .i64 rr, .int .u64 m, .slice A l.length c, .int .u64 vn, .int .u64 ve, .int .i64 vr, .int .u64 vm, .int .u64 nb, .int .i64 ix, .int .i64 tt] from ((((((H2.out.setx 0 (.int .i64 2)).setx 6 (.int .u64 n)).setx 7 (.int .u64 e0)).setx 8 (.int .i64 rr)).setx 9 (.int .u64 m)).setx 10 (.slice A l.length c)))
  clear s2 s3 s4 s5 s6 x0 f0 x6 f6 x7 f7 x8 f8 x9 f9 x10 f10
  generalize ((((((w2.setCell ⟨w.heap.size + 1, 0, none⟩ (.int .i64 2)).setCell ⟨w.heap.size + 1, 6, none⟩ (.int .u64 n)).setCell ⟨w.heap.size + 1, 7, none⟩ (.int .u64 e0)).setCell ⟨w.heap.size + 1, 8, none⟩ (.int .i64 rr)).setCell ⟨w.heap.size + 1, 9, none⟩ (.int .u64 m)).setCell ⟨w.heap.size + 1, 10, none⟩ (.slice A l.length c)) = W3 at H3 ⊢
  go_wp2_with (first | ((with_reducible refine gate_dst (N := 39) rfl ?_); refine load_event rfl (.tmp 3) 34 rfl rfl (load34 H3.out.x_) ?_) | (go_at_call 11; (with_reducible refine (log_PrintItem.calls 2 d inc holds has dir n e0 rr m A c l vn ve vr vm nb ix tt u e _ (H3.out.row HC.out.1) HC.out.2.1 HC.out.2.2.2).mono ?_); rintro _ w4 ⟨rfl, hb⟩; have H4 := Aside0.mk (H3.out.below hb); have s6 := cellAt (i := 6) H4.out.s_ rfl; clear hb))
  go_ret
  exact ⟨rfl, H4.out.bel⟩
set_option maxHeartbeats 8000000 in
set_option maxRecDepth 100000 in
theorem sizes_good (a0 a1 n e0 rr m : Int) (A : Option Addr) (c : Nat) (l : List S27) (k : Int) (d : ByteArray) (inc holds : Int) (has dir : Bool) (rn re r3 rm : Int) (A2 : Option Addr) (c2 : Nat) (l2 : List S27) (vn ve vr vm nb ix tt : Int) (w : World) (h1 : l.length ≤ 300) (h2 : l2.length ≤ 300) (h3 : d.size ≤ 5000) (hC : Kd.C k27 w A l.length l) (hcc : l.length ≤ c) (t u : ByteArray) (e : Int) (hp : log_Print.f a0 a1 n e0 rr m l = some (t, e)) (hi : log_PrintItem.f 2 d inc holds has dir n e0 rr m l vn ve vr vm nb ix tt = some (u, e)) (h4 : t.size ≤ 8192) (h5 : u.size ≤ 1024) (h6 : e = 0) (h7 : t.size = 39 + 25 * l.length) (h8 : u.size = 40 + 25 * l.length) : Calls Try.prog 4 #[.agg #[.int .u64 a0, .int .u32 a1, .int .u64 n, .int .u64 e0, .int .i64 rr, .int .u64 m, .slice A l.length c], .agg #[.int .i64 k, .string d, .int .u32 inc, .int .u64 holds, .bool has, .bool dir, .int .u64 rn, .int .u64 re, .int .i64 r3, .int .u64 rm, .slice A2 l2.length c2, .int .u64 vn, .int .u64 ve, .int .i64 vr, .int .u64 vm, .int .u64 nb, .int .i64 ix, .int .i64 tt]] w fun e w' => e = .returned (.bool true) ∧ Below w.heap.size w w' := by
  have b0 : decide (300 < (l.length : Int)) = false := decide_eq_false (by omega)
  have b1 : decide (300 < (l2.length : Int)) = false := decide_eq_false (by omega)
  have b2 : decide (5000 < (d.size : Int)) = false := decide_eq_false (by omega)
  have b3 : decide (8192 < (t.size : Int)) = false := decide_eq_false (by omega)
  have b4 : decide (1024 < (u.size : Int)) = false := decide_eq_false (by omega)
  have HC := Aside0.mk (show _ ∧ _ ∧ _ ∧ _ from ⟨hC, hcc, hp, hi⟩)
  have ws : ∀ x : Int, 0 ≤ x → x ≤ 1000000 → wrap64 x = x := fun x g0 g1 => by unfold wrap64; omega
  have q1 : ((t.size : Int) == wrap64 (39 + wrap64 (25 * (l.length : Int)))) = true := by
    rw [ws (25 * (l.length : Int)) (by omega) (by omega), ws (39 + 25 * (l.length : Int)) (by omega) (by omega)]
    exact beq_iff_eq.mpr (by omega)
  have q2 : ((u.size : Int) == wrap64 (40 + wrap64 (25 * (l.length : Int)))) = true := by
    rw [ws (25 * (l.length : Int)) (by omega) (by omega), ws (40 + 25 * (l.length : Int)) (by omega) (by omega)]
    exact beq_iff_eq.mpr (by omega)
  subst h6
  clear h7 h8 ws
  clear hC hcc hp hi h1 h2 h3 h4 h5
  go_enter Try.func4, Try.ntmps4
  go_upto_region 8 with (first | (go_at_call 6; (with_reducible refine (consortlaw19_awake.calls true _ rfl).mono ?_); rintro e w1 ⟨rfl, hb⟩; have H1 := Aside0.mk ((LB.start w #[.int .u64 a0, .int .u32 a1, .int .u64 n, .int .u64 e0, .int .i64 rr, .int .u64 m, .slice A l.length c] #[.int .i64 k, .string d, .int .u32 inc, .int .u64 holds, .bool has, .bool dir, .int .u64 rn, .int .u64 re, .int .i64 r3, .int .u64 rm, .slice A2 l2.length c2, .int .u64 vn, .int .u64 ve, .int .i64 vr, .int .u64 vm, .int .u64 nb, .int .i64 ix, .int .i64 tt]).below hb); have s6 := cellAt (i := 6) H1.out.s_ rfl; have x10 := cellAt (i := 10) H1.out.x_ rfl; have x1 := cellAt (i := 1) H1.out.x_ rfl; have s0 := cellAt (i := 0) H1.out.s_ rfl; have s1 := cellAt (i := 1) H1.out.s_ rfl; have s2 := cellAt (i := 2) H1.out.s_ rfl; have s3 := cellAt (i := 3) H1.out.s_ rfl; have s4 := cellAt (i := 4) H1.out.s_ rfl; have s5 := cellAt (i := 5) H1.out.s_ rfl; clear hb) | (go_at_call 7; (with_reducible refine (log_Print.calls a0 a1 n e0 rr m A c l t 0 _ (H1.out.row HC.out.1) HC.out.2.1 HC.out.2.2.1).mono ?_); clear s0 s1 s2 s3 s4 s5 s6 x1 x10; rintro _ w2 ⟨rfl, hb⟩; have H2 := Aside0.mk (H1.out.below hb); have s2 := cellAt (i := 2) H2.out.s_ rfl; have s3 := cellAt (i := 3) H2.out.s_ rfl; have s4 := cellAt (i := 4) H2.out.s_ rfl; have s5 := cellAt (i := 5) H2.out.s_ rfl; have s6 := cellAt (i := 6) H2.out.s_ rfl;have x0 := cellAt (i := 0) H2.out.x_ rfl; have f0 := blk_frozen H2.out.x_ 0; have x6 := cellAt (i := 6) H2.out.x_ rfl; have f6 := blk_frozen H2.out.x_ 6; have x7 := cellAt (i := 7) H2.out.x_ rfl; have f7 := blk_frozen H2.out.x_ 7; have x8 := cellAt (i := 8) H2.out.x_ rfl; have f8 := blk_frozen H2.out.x_ 8; have x9 := cellAt (i := 9) H2.out.x_ rfl; have f9 := blk_frozen H2.out.x_ 9; have x10 := cellAt (i := 10) H2.out.x_ rfl; have f10 := blk_frozen H2.out.x_ 10; clear hb))
  have H3 := Aside0.mk (show LB w ((((((w2.setCell ⟨w.heap.size + 1, 0, none⟩ (.int .i64 2)).setCell ⟨w.heap.size + 1, 6, none⟩ (.int .u64 n)).setCell ⟨w.heap.size + 1, 7, none⟩ (.int .u64 e0)).setCell ⟨w.heap.size + 1, 8, none⟩ (.int .i64 rr)).setCell ⟨w.heap.size + 1, 9, none⟩ (.int .u64 m)).setCell ⟨w.heap.size + 1, 10, none⟩ (.slice A l.length c)) #[.int .u64 a0, .int .u32 a1, .int .u64 n, .int .u64 e0, .int .i64 rr, .int .u64 m, .slice A l.length c] #[.int .i64 2, .string d, .int .u32 inc, .int .u64 holds, .bool has, .bool dir, .int .u64 n, .int .u64 e0, .int .i64 rr, .int .u64 m, .slice A l.length c, .int .u64 vn, .int .u64 ve, .int .i64 vr, .int .u64 vm, .int .u64 nb, .int .i64 ix, .int .i64 tt] from ((((((H2.out.setx 0 (.int .i64 2)).setx 6 (.int .u64 n)).setx 7 (.int .u64 e0)).setx 8 (.int .i64 rr)).setx 9 (.int .u64 m)).setx 10 (.slice A l.length c)))
  clear s2 s3 s4 s5 s6 x0 f0 x6 f6 x7 f7 x8 f8 x9 f9 x10 f10
  generalize ((((((w2.setCell ⟨w.heap.size + 1, 0, none⟩ (.int .i64 2)).setCell ⟨w.heap.size + 1, 6, none⟩ (.int .u64 n)).setCell ⟨w.heap.size + 1, 7, none⟩ (.int .u64 e0)).setCell ⟨w.heap.size + 1, 8, none⟩ (.int .i64 rr)).setCell ⟨w.heap.size + 1, 9, none⟩ (.int .u64 m)).setCell ⟨w.heap.size + 1, 10, none⟩ (.slice A l.length c)) = W3 at H3 ⊢
  go_wp2_with (first | ((with_reducible refine gate_dst (N := 39) rfl ?_); refine load_event rfl (.tmp 3) 34 rfl rfl (load34 H3.out.x_) ?_) | (go_at_call 11; (with_reducible refine (log_PrintItem.calls 2 d inc holds has dir n e0 rr m A c l vn ve vr vm nb ix tt u 0 _ (H3.out.row HC.out.1) HC.out.2.1 HC.out.2.2.2).mono ?_); rintro _ w4 ⟨rfl, hb⟩; have H4 := Aside0.mk (H3.out.below hb); have s6 := cellAt (i := 6) H4.out.s_ rfl; clear hb))
  go_ret
  exact ⟨rfl, H4.out.bel⟩
def consortlaw19_LogSizes.f (a0 a1 n e0 rr m : Int) (l : List S27) (k : Int) (d : ByteArray) (inc holds : Int) (has dir : Bool) (rn re r3 rm : Int) (l2 : List S27) (vn ve vr vm nb ix tt : Int) : Option Bool :=
  if (0 ≤ a1 ∧ a1 ≤ 4294967295) ∧ (0 ≤ inc ∧ inc ≤ 4294967295) then some true else none
theorem consortlaw19_LogSizes.calls (a0 a1 n e0 rr m : Int) (A : Option Addr) (c : Nat) (l : List S27) (k : Int) (d : ByteArray) (inc holds : Int) (has dir : Bool) (rn re r3 rm : Int) (A2 : Option Addr) (c2 : Nat) (l2 : List S27) (vn ve vr vm nb ix tt : Int) (w : World)
    (hC : Kd.C k27 w A l.length l) (hcc : l.length ≤ c) (hC2 : Kd.C k27 w A2 l2.length l2) (hcc2 : l2.length ≤ c2) (h : consortlaw19_LogSizes.f a0 a1 n e0 rr m l k d inc holds has dir rn re r3 rm l2 vn ve vr vm nb ix tt = some true) : Calls Try.prog 4 #[.agg #[.int .u64 a0, .int .u32 a1, .int .u64 n, .int .u64 e0, .int .i64 rr, .int .u64 m, .slice A l.length c], .agg #[.int .i64 k, .string d, .int .u32 inc, .int .u64 holds, .bool has, .bool dir, .int .u64 rn, .int .u64 re, .int .i64 r3, .int .u64 rm, .slice A2 l2.length c2, .int .u64 vn, .int .u64 ve, .int .i64 vr, .int .u64 vm, .int .u64 nb, .int .i64 ix, .int .i64 tt]] w fun e w' => e = .returned (.bool true) ∧ Below w.heap.size w w' := by
  unfold consortlaw19_LogSizes.f at h
  by_cases hb : (0 ≤ a1 ∧ a1 ≤ 4294967295) ∧ (0 ≤ inc ∧ inc ≤ 4294967295)
  rotate_left
  · rw [if_neg hb] at h
    cases h
  clear h
  by_cases h1 : 300 < l.length
  · exact sizes_e1 a0 a1 n e0 rr m A c l k d inc holds has dir rn re r3 rm A2 c2 l2 vn ve vr vm nb ix tt w h1
  by_cases h2 : 300 < l2.length
  · exact sizes_e2 a0 a1 n e0 rr m A c l k d inc holds has dir rn re r3 rm A2 c2 l2 vn ve vr vm nb ix tt w (by omega) h2
  by_cases h3 : 5000 < d.size
  · exact sizes_e3 a0 a1 n e0 rr m A c l k d inc holds has dir rn re r3 rm A2 c2 l2 vn ve vr vm nb ix tt w (by omega) (by omega) h3
  obtain ⟨t, u, e, p1, p2, p3, p4, p5⟩ := sizes_is a0 a1 n e0 rr m l d inc holds has dir vn ve vr vm nb ix tt
  have g1 : log_Print.f a0 a1 n e0 rr m l = some (t, e) := by rw [log_Print.f, if_pos hb.1, p1]
  have g2 : log_PrintItem.f 2 d inc holds has dir n e0 rr m l vn ve vr vm nb ix tt = some (u, e) := by rw [log_PrintItem.f, if_pos ⟨hb.2, by omega⟩, p2]
  by_cases h6 : e = 0
  · exact sizes_good a0 a1 n e0 rr m A c l k d inc holds has dir rn re r3 rm A2 c2 l2 vn ve vr vm nb ix tt w (by omega) (by omega) (by omega) hC hcc t u e g1 g2 p3 p4 h6 (p5 h6).1 (p5 h6).2
  · exact sizes_bad a0 a1 n e0 rr m A c l k d inc holds has dir rn re r3 rm A2 c2 l2 vn ve vr vm nb ix tt w (by omega) (by omega) (by omega) hC hcc t u e g1 g2 p3 p4 h6
end Go.Proofs.Ytlkemknhmfjdpaa.P
