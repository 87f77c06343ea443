import Derived.Test.YtlkemknhmfjdpaaHandA6
import Derived.Test.YtlkemknhmfjdpaaHandI
import Derived.Test.YtlkemknhmfjdpaaHandZ
import Derived.Test.YtlkemknhmfjdpaaHandAw
/- ParseItem, by hand. -/
namespace Go.Proofs.Ytlkemknhmfjdpaa.P
open Go.RowKit Go.Proofs.YtlkemknhmfjdpaaW.PrintWords Go.Proofs.YtlkemknhmfjdpaaW.PrintLast Go.Proofs.YtlkemknhmfjdpaaW.PrintMore
attribute [local go_sem] max2_int min2_int max_two min_two max_three min_three max_four min_four
set_option linter.unusedVariables false
set_option linter.unusedSimpArgs false

theorem alloc2_new (w : World) (o1 o2 : Obj) : ((w.alloc o1).alloc o2).heap[w.heap.size + 1]? = some o2 := by
  have := heap_alloc_new (w.alloc o1) o2
  simpa using this
set_option maxHeartbeats 4000000 in
theorem rec_id (n e0 rr m : Int) (A : Option Addr) (k c : Nat) (w : World) : Calls Try.prog 14 #[.agg #[.int .u64 n, .int .u64 e0, .int .i64 rr, .int .u64 m, .slice A k c]] w fun e w' => e = .returned (.agg #[.int .u64 n, .int .u64 e0, .int .i64 rr, .int .u64 m, .slice A k c]) ∧ Below w.heap.size w w' := by
  go_enter Try.func14, Try.ntmps14
  go_wp2
  refine bodyPost_ret (results_cell_row rfl _ _ (w.heap.size + 1) 42 #[.int .u64 n, .int .u64 e0, .int .i64 rr, .int .u64 m, .slice A k c] (0, 0) _ rfl (alloc2_new _ _ _) Try.underlying42 rfl (by kernel_rfl)) rfl ?_
  exact ⟨rfl, below_alloc (below_alloc (Below.refl _ _) _) _⟩
theorem bk0 {W W1 : World} {i : Nat} {o : Obj} (h : W.heap[i]? = some o) (hb : Below W.heap.size W W1) : W1.heap[i]? = some o := (hb.block i (blk_lt h)).trans h
set_option maxHeartbeats 8000000 in
set_option maxRecDepth 100000 in
theorem stable_id (ep inc n e0 rr m : Int) (A : Option Addr) (k c : Nat) (w : World) : Calls Try.prog 10 #[.agg #[.int .u64 ep, .int .u32 inc, .int .u64 n, .int .u64 e0, .int .i64 rr, .int .u64 m, .slice A k c]] w fun e w' => e = .returned (.agg #[.int .u64 ep, .int .u32 inc, .int .u64 n, .int .u64 e0, .int .i64 rr, .int .u64 m, .slice A k c]) ∧ Below w.heap.size w w' := by
  go_enter Try.func10, Try.ntmps10
  go_wp2
  have X0 := Aside0.mk (show ((w.alloc (.cells #[.int .u64 ep, .int .u32 inc, .int .u64 n, .int .u64 e0, .int .i64 rr, .int .u64 m, .slice A k c] 32)).alloc (.cells #[.int .u64 0, .int .u32 0, .int .u64 0, .int .u64 0, .int .i64 0, .int .u64 0, .slice none 0 0] 44)).drew.heap[w.heap.size]? = some (.cells #[.int .u64 ep, .int .u32 inc, .int .u64 n, .int .u64 e0, .int .i64 rr, .int .u64 m, .slice A k c] 32 (0, 0)) from heap_old1 (heap_alloc_new w _) _)
  refine start_ (n := 9) (S := fun w' : World => w'.cell? ⟨w.heap.size, 0, none⟩ = some (.int .u64 ep) ∧ w'.cell? ⟨w.heap.size, 1, none⟩ = some (.int .u32 inc) ∧ w'.cell? ⟨w.heap.size, 2, none⟩ = some (.int .u64 n) ∧ w'.cell? ⟨w.heap.size, 3, none⟩ = some (.int .u64 e0) ∧ w'.cell? ⟨w.heap.size, 4, none⟩ = some (.int .i64 rr) ∧ w'.cell? ⟨w.heap.size, 5, none⟩ = some (.int .u64 m) ∧ w'.cell? ⟨w.heap.size, 6, none⟩ = some (.slice A k c)) (ds := [8]) #[false, false, false, false, false, false, false, false, false] (by kernel_rfl) rfl rfl ⟨cellAt (i := 0) X0.out rfl, cellAt (i := 1) X0.out rfl, cellAt (i := 2) X0.out rfl, cellAt (i := 3) X0.out rfl, cellAt (i := 4) X0.out rfl, cellAt (i := 5) X0.out rfl, cellAt (i := 6) X0.out rfl⟩ (fun hHeld => ?_)
  clear X0
  have X1 := Aside0.mk (show ((w.alloc (.cells #[.int .u64 ep, .int .u32 inc, .int .u64 n, .int .u64 e0, .int .i64 rr, .int .u64 m, .slice A k c] 32)).alloc (.cells #[.int .u64 0, .int .u32 0, .int .u64 0, .int .u64 0, .int .i64 0, .int .u64 0, .slice none 0 0] 44)).drew.heap[w.heap.size]? = some (.cells #[.int .u64 ep, .int .u32 inc, .int .u64 n, .int .u64 e0, .int .i64 rr, .int .u64 m, .slice A k c] 32 (0, 0)) from heap_old1 (heap_alloc_new w _) _)
  have Y1 := Aside0.mk (show ((w.alloc (.cells #[.int .u64 ep, .int .u32 inc, .int .u64 n, .int .u64 e0, .int .i64 rr, .int .u64 m, .slice A k c] 32)).alloc (.cells #[.int .u64 0, .int .u32 0, .int .u64 0, .int .u64 0, .int .i64 0, .int .u64 0, .slice none 0 0] 44)).drew.heap[w.heap.size + 1]? = some (.cells #[.int .u64 0, .int .u32 0, .int .u64 0, .int .u64 0, .int .i64 0, .int .u64 0, .slice none 0 0] 44 (0, 0)) from alloc2_new w _ _)
  have HB1 := Aside0.mk (show Below w.heap.size w ((w.alloc (.cells #[.int .u64 ep, .int .u32 inc, .int .u64 n, .int .u64 e0, .int .i64 rr, .int .u64 m, .slice A k c] 32)).alloc (.cells #[.int .u64 0, .int .u32 0, .int .u64 0, .int .u64 0, .int .i64 0, .int .u64 0, .slice none 0 0] 44)).drew from below_drew (below_alloc (below_alloc (Below.refl _ _) _) _))
  generalize ((w.alloc (.cells #[.int .u64 ep, .int .u32 inc, .int .u64 n, .int .u64 e0, .int .i64 rr, .int .u64 m, .slice A k c] 32)).alloc (.cells #[.int .u64 0, .int .u32 0, .int .u64 0, .int .u64 0, .int .i64 0, .int .u64 0, .slice none 0 0] 44)).drew = wd at X1 Y1 HB1 hHeld ⊢
  refine pure_ (i := 0) (N := some 3) (v := ?_) (a' := ?_) #[true, false, false, false, false, false, false, false, false] rfl rfl (by kernel_rfl) (fun _ _ _ h => h) (Or.inl ⟨by rfl, ?_⟩) ?_ ?_
  rotate_left
  · intro w'
    go_simp
    with_reducible rfl
  rotate_left
  · simp only [Act.put, List.setIfInBounds_toArray, List.set_cons_zero, List.set_cons_succ, i64_w, i32_w]
    rfl
  refine take_ (i := 1) (N := some 4) (v := ?_) (a' := ?_) #[true, true, false, false, false, false, false, false, false] rfl rfl (by kernel_rfl) (fun _ _ _ h => h) (Or.inl ⟨by rfl, ?_⟩) hHeld ?_ ?_
  rotate_left
  · rintro w' ⟨s0, s1, s2, s3, s4, s5, s6⟩
    go_simp
    with_reducible rfl
  rotate_left
  · simp only [Act.put, List.setIfInBounds_toArray, List.set_cons_zero, List.set_cons_succ, i64_w, i32_w]
    rfl
  refine pure_ (i := 2) (N := some 5) (v := ?_) (a' := ?_) #[true, true, true, false, false, false, false, false, false] rfl rfl (by kernel_rfl) (fun _ _ _ h => h) (Or.inl ⟨by rfl, ?_⟩) ?_ ?_
  rotate_left
  · intro w'
    go_simp
    with_reducible rfl
  rotate_left
  · simp only [Act.put, List.setIfInBounds_toArray, List.set_cons_zero, List.set_cons_succ, i64_w, i32_w]
    rfl
  refine take_ (i := 3) (N := some 6) (v := ?_) (a' := ?_) #[true, true, true, true, false, false, false, false, false] rfl rfl (by kernel_rfl) (fun _ _ _ h => h) (Or.inl ⟨by rfl, ?_⟩) hHeld ?_ ?_
  rotate_left
  · rintro w' ⟨s0, s1, s2, s3, s4, s5, s6⟩
    go_simp
    with_reducible rfl
  rotate_left
  · simp only [Act.put, List.setIfInBounds_toArray, List.set_cons_zero, List.set_cons_succ, i64_w, i32_w]
    rfl
  refine pure_ (i := 4) (N := some 7) (v := ?_) (a' := ?_) #[true, true, true, true, true, false, false, false, false] rfl rfl (by kernel_rfl) (fun _ _ _ h => h) (Or.inl ⟨by rfl, ?_⟩) ?_ ?_
  rotate_left
  · intro w'
    go_simp
    with_reducible rfl
  rotate_left
  · simp only [Act.put, List.setIfInBounds_toArray, List.set_cons_zero, List.set_cons_succ, i64_w, i32_w]
    rfl
  refine take_ (i := 5) (N := some 8) (v := ?_) (a' := ?_) #[true, true, true, true, true, true, false, false, false] rfl rfl (by kernel_rfl) (fun _ _ _ h => h) (Or.inl ⟨by rfl, ?_⟩) hHeld ?_ ?_
  rotate_left
  · rintro w' ⟨s0, s1, s2, s3, s4, s5, s6⟩
    go_simp
    with_reducible rfl
  rotate_left
  · simp only [Act.put, List.setIfInBounds_toArray, List.set_cons_zero, List.set_cons_succ, i64_w, i32_w]
    rfl
  refine one_ (i := 6) (N := some 9) #[true, true, true, true, true, true, true, false, false] rfl rfl (by kernel_rfl) (by decide) (fun K hK => ?_)
  refine goes_ Try.func14 (by kernel_rfl) rfl #[.agg #[.int .u64 n, .int .u64 e0, .int .i64 rr, .int .u64 m, .slice A k c]] (by rfl) rfl rfl (by (try simp only [List.map_toArray, List.map_cons, List.map_nil]); first | done | rfl) ?_
  with_reducible refine (rec_id n e0 rr m A k c wd).mono ?_
  rintro e w5 ⟨rfl, hb⟩
  refine ⟨_, rfl, ?_⟩
  have X5 := Aside0.mk (bk0 X1.out hb)
  have Y5 := Aside0.mk (bk0 Y1.out hb)
  have HB5 := Aside0.mk (below_step HB1.out hb)
  clear hb
  refine hK.out _ _ ⟨cellAt (i := 0) X5.out rfl, cellAt (i := 1) X5.out rfl, cellAt (i := 2) X5.out rfl, cellAt (i := 3) X5.out rfl, cellAt (i := 4) X5.out rfl, cellAt (i := 5) X5.out rfl, cellAt (i := 6) X5.out rfl⟩ (fun hHeld => ?_)
  clear hK K
  refine norm_ (a' := ?_) ?_ ?_
  rotate_left
  · show Act.put _ (some 9) _ = _
    simp only [Act.put, List.setIfInBounds_toArray, List.set_cons_zero, List.set_cons_succ, i64_w, i32_w]
    rfl
  refine pure_ (i := 7) (N := some 10) (v := ?_) (a' := ?_) #[true, true, true, true, true, true, true, true, false] rfl rfl (by kernel_rfl) (fun _ _ _ h => h) (Or.inl ⟨by rfl, ?_⟩) ?_ ?_
  rotate_left
  · intro w'
    go_simp
    with_reducible rfl
  rotate_left
  · simp only [Act.put, List.setIfInBounds_toArray, List.set_cons_zero, List.set_cons_succ, i64_w, i32_w]
    rfl
  have s0 := cellAt (i := 0) Y5.out rfl
  have s1 := cellAt (i := 1) Y5.out rfl
  have s2 := cellAt (i := 2) Y5.out rfl
  have s3 := cellAt (i := 3) Y5.out rfl
  have s4 := cellAt (i := 4) Y5.out rfl
  have s5 := cellAt (i := 5) Y5.out rfl
  have s6 := cellAt (i := 6) Y5.out rfl
  have f0 := blk_frozen Y5.out 0
  have f1 := blk_frozen Y5.out 1
  have f2 := blk_frozen Y5.out 2
  have f3 := blk_frozen Y5.out 3
  have f4 := blk_frozen Y5.out 4
  have f5 := blk_frozen Y5.out 5
  have f6 := blk_frozen Y5.out 6
  refine last_ (i := 8) (N := none) #[true, true, true, true, true, true, true, true, true] rfl rfl (by kernel_rfl) (by decide) (fun K hK => ?_)
  refine skip_ (w1 := ?_) (by rfl) rfl ?_ ?_
  rotate_left
  · go_simp
    rfl
  refine hK.out _ _ ?_
  clear hK K
  refine done_ (by kernel_rfl) ?_
  go_wp2
  refine bodyPost_ret (results_cell_row rfl _ _ (w.heap.size + 1) 44 #[.int .u64 ep, .int .u32 inc, .int .u64 n, .int .u64 e0, .int .i64 rr, .int .u64 m, .slice A k c] (0, 0) _ rfl (blk_set (blk_set (blk_set (blk_set (blk_set (blk_set (blk_set Y5.out 0 (.int .u64 ep)) 1 (.int .u32 inc)) 2 (.int .u64 n)) 3 (.int .u64 e0)) 4 (.int .i64 rr)) 5 (.int .u64 m)) 6 (.slice A k c)) Try.underlying44 rfl (by kernel_rfl)) rfl ?_
  exact ⟨rfl, (below_set (below_set (below_set (below_set (below_set (below_set (below_set HB5.out (Nat.le_succ _)) (Nat.le_succ _)) (Nat.le_succ _)) (Nat.le_succ _)) (Nat.le_succ _)) (Nat.le_succ _)) (Nat.le_succ _))⟩
end Go.Proofs.Ytlkemknhmfjdpaa.P
/- ParseItem, by hand. -/
namespace Go.Proofs.Ytlkemknhmfjdpaa.P
open Go.RowKit Go.Proofs.YtlkemknhmfjdpaaW.PrintWords Go.Proofs.YtlkemknhmfjdpaaW.PrintLast Go.Proofs.YtlkemknhmfjdpaaW.PrintMore
attribute [local go_sem] max2_int min2_int max_two min_two max_three min_three max_four min_four
set_option linter.unusedVariables false
set_option linter.unusedSimpArgs false

/-- What the laws' own blocks hold: the stable record, the item. -/
structure LB (w W : World) (cs cx : Array Value) : Prop where
  bel : Below w.heap.size w W
  s_ : W.heap[w.heap.size]? = some (.cells cs 32 (0, 0))
  x_ : W.heap[w.heap.size + 1]? = some (.cells cx 34 (0, 0))
theorem LB.below {w W W1 : World} {cs cx : Array Value} (h : LB w W cs cx) (hb : Below W.heap.size W W1) : LB w W1 cs cx := ⟨below_step h.bel hb, bk0 h.s_ hb, bk0 h.x_ hb⟩
end Go.Proofs.Ytlkemknhmfjdpaa.P
/- ParseItem, by hand. -/
namespace Go.Proofs.Ytlkemknhmfjdpaa.P
open Go.RowKit Go.Proofs.YtlkemknhmfjdpaaW.PrintWords Go.Proofs.YtlkemknhmfjdpaaW.PrintLast Go.Proofs.YtlkemknhmfjdpaaW.PrintMore
attribute [local go_sem] max2_int min2_int max_two min_two max_three min_three max_four min_four
set_option linter.unusedVariables false
set_option linter.unusedSimpArgs false

end Go.Proofs.Ytlkemknhmfjdpaa.P
