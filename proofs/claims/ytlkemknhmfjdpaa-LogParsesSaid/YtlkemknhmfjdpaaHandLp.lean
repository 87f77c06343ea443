import Derived.Test.YtlkemknhmfjdpaaHandO3
import Derived.Test.YtlkemknhmfjdpaaHandLb
import Derived.Test.YtlkemknhmfjdpaaHandAw
import Derived.RegionCalls
import Derived.Deep.RegionWith
/- LogParses, by hand. -/
namespace Go.Proofs.Ytlkemknhmfjdpaa.P
open Go.RowKit Go.Proofs.YtlkemknhmfjdpaaW.PrintWords Go.Proofs.YtlkemknhmfjdpaaW.PrintLast Go.Proofs.YtlkemknhmfjdpaaW.PrintMore
attribute [local go_sem] max2_int min2_int max_two min_two max_three min_three max_four min_four
set_option linter.unusedVariables false
set_option linter.unusedSimpArgs false

set_option maxHeartbeats 8000000 in
set_option maxRecDepth 100000 in
theorem item_id (k : Int) (d : ByteArray) (inc holds : Int) (has dir : Bool) (rn re r3 rm : Int) (A : Option Addr) (n c : Nat) (vn ve vr vm nb ix tt : Int) (w : World) : Calls Try.prog 18 #[.agg #[.int .i64 k, .string d, .int .u32 inc, .int .u64 holds, .bool has, .bool dir, .int .u64 rn, .int .u64 re, .int .i64 r3, .int .u64 rm, .slice A n c, .int .u64 vn, .int .u64 ve, .int .i64 vr, .int .u64 vm, .int .u64 nb, .int .i64 ix, .int .i64 tt]] w fun e w' => e = .returned (.agg #[.int .i64 k, .string d, .int .u32 inc, .int .u64 holds, .bool has, .bool dir, .int .u64 rn, .int .u64 re, .int .i64 r3, .int .u64 rm, .slice A n c, .int .u64 vn, .int .u64 ve, .int .i64 vr, .int .u64 vm, .int .u64 nb, .int .i64 ix, .int .i64 tt]) ∧ Below w.heap.size w w' := by
  go_enter Try.func18, Try.ntmps18
  go_wp2
  have X0 := Aside0.mk (show ((w.alloc (.cells #[.int .i64 k, .string d, .int .u32 inc, .int .u64 holds, .bool has, .bool dir, .int .u64 rn, .int .u64 re, .int .i64 r3, .int .u64 rm, .slice A n c, .int .u64 vn, .int .u64 ve, .int .i64 vr, .int .u64 vm, .int .u64 nb, .int .i64 ix, .int .i64 tt] 34)).alloc (.cells #[.int .i64 0, .string ⟨#[]⟩, .int .u32 0, .int .u64 0, .bool false, .bool false, .int .u64 0, .int .u64 0, .int .i64 0, .int .u64 0, .slice none 0 0, .int .u64 0, .int .u64 0, .int .i64 0, .int .u64 0, .int .u64 0, .int .i64 0, .int .i64 0] 56)).drew.heap[w.heap.size]? = some (.cells #[.int .i64 k, .string d, .int .u32 inc, .int .u64 holds, .bool has, .bool dir, .int .u64 rn, .int .u64 re, .int .i64 r3, .int .u64 rm, .slice A n c, .int .u64 vn, .int .u64 ve, .int .i64 vr, .int .u64 vm, .int .u64 nb, .int .i64 ix, .int .i64 tt] 34 (0, 0)) from heap_old1 (heap_alloc_new w _) _)
  refine start_ (n := 25) (S := fun w' : World => w'.heap[w.heap.size]? = some (.cells #[.int .i64 k, .string d, .int .u32 inc, .int .u64 holds, .bool has, .bool dir, .int .u64 rn, .int .u64 re, .int .i64 r3, .int .u64 rm, .slice A n c, .int .u64 vn, .int .u64 ve, .int .i64 vr, .int .u64 vm, .int .u64 nb, .int .i64 ix, .int .i64 tt] 34 (0, 0))) (ds := [24]) #[false, false, false, false, false, false, false, false, false, false, false, false, false, false, false, false, false, false, false, false, false, false, false, false, false] (by kernel_rfl) rfl rfl X0.out (fun hHeld => ?_)
  clear X0
  have Y1 := Aside0.mk (show ((w.alloc (.cells #[.int .i64 k, .string d, .int .u32 inc, .int .u64 holds, .bool has, .bool dir, .int .u64 rn, .int .u64 re, .int .i64 r3, .int .u64 rm, .slice A n c, .int .u64 vn, .int .u64 ve, .int .i64 vr, .int .u64 vm, .int .u64 nb, .int .i64 ix, .int .i64 tt] 34)).alloc (.cells #[.int .i64 0, .string ⟨#[]⟩, .int .u32 0, .int .u64 0, .bool false, .bool false, .int .u64 0, .int .u64 0, .int .i64 0, .int .u64 0, .slice none 0 0, .int .u64 0, .int .u64 0, .int .i64 0, .int .u64 0, .int .u64 0, .int .i64 0, .int .i64 0] 56)).drew.heap[w.heap.size + 1]? = some (.cells #[.int .i64 0, .string ⟨#[]⟩, .int .u32 0, .int .u64 0, .bool false, .bool false, .int .u64 0, .int .u64 0, .int .i64 0, .int .u64 0, .slice none 0 0, .int .u64 0, .int .u64 0, .int .i64 0, .int .u64 0, .int .u64 0, .int .i64 0, .int .i64 0] 56 (0, 0)) from alloc2_new w _ _)
  have HB1 := Aside0.mk (show Below w.heap.size w ((w.alloc (.cells #[.int .i64 k, .string d, .int .u32 inc, .int .u64 holds, .bool has, .bool dir, .int .u64 rn, .int .u64 re, .int .i64 r3, .int .u64 rm, .slice A n c, .int .u64 vn, .int .u64 ve, .int .i64 vr, .int .u64 vm, .int .u64 nb, .int .i64 ix, .int .i64 tt] 34)).alloc (.cells #[.int .i64 0, .string ⟨#[]⟩, .int .u32 0, .int .u64 0, .bool false, .bool false, .int .u64 0, .int .u64 0, .int .i64 0, .int .u64 0, .slice none 0 0, .int .u64 0, .int .u64 0, .int .i64 0, .int .u64 0, .int .u64 0, .int .i64 0, .int .i64 0] 56)).drew from below_drew (below_alloc (below_alloc (Below.refl _ _) _) _))
  generalize ((w.alloc (.cells #[.int .i64 k, .string d, .int .u32 inc, .int .u64 holds, .bool has, .bool dir, .int .u64 rn, .int .u64 re, .int .i64 r3, .int .u64 rm, .slice A n c, .int .u64 vn, .int .u64 ve, .int .i64 vr, .int .u64 vm, .int .u64 nb, .int .i64 ix, .int .i64 tt] 34)).alloc (.cells #[.int .i64 0, .string ⟨#[]⟩, .int .u32 0, .int .u64 0, .bool false, .bool false, .int .u64 0, .int .u64 0, .int .i64 0, .int .u64 0, .slice none 0 0, .int .u64 0, .int .u64 0, .int .i64 0, .int .u64 0, .int .u64 0, .int .i64 0, .int .i64 0] 56)).drew = wd at Y1 HB1 hHeld ⊢
  refine pure_ (i := 0) (N := some 3) (v := ?_) (a' := ?_) #[true, false, false, false, false, false, false, false, false, false, false, false, false, false, false, false, false, false, false, false, false, false, false, false, false] rfl rfl (by kernel_rfl) (fun _ _ _ h => h) (Or.inl ⟨by rfl, ?_⟩) ?_ ?_
  rotate_left
  · intro w'
    go_simp
    with_reducible rfl
  rotate_left
  · simp only [Act.put, List.setIfInBounds_toArray, List.set_cons_zero, List.set_cons_succ, i64_w, i32_w]
    rfl
  refine take_ (i := 1) (N := some 4) (v := ?_) (a' := ?_) #[true, true, false, false, false, false, false, false, false, false, false, false, false, false, false, false, false, false, false, false, false, false, false, false, false] rfl rfl (by kernel_rfl) (fun _ _ _ h => h) (Or.inl ⟨by rfl, ?_⟩) hHeld ?_ ?_
  rotate_left
  · rintro w' g3; have s0 := cellAt (i := 0) g3 rfl
    go_simp
    with_reducible rfl
  rotate_left
  · simp only [Act.put, List.setIfInBounds_toArray, List.set_cons_zero, List.set_cons_succ, i64_w, i32_w]
    rfl
  refine pure_ (i := 2) (N := some 5) (v := ?_) (a' := ?_) #[true, true, true, false, false, false, false, false, false, false, false, false, false, false, false, false, false, false, false, false, false, false, false, false, false] rfl rfl (by kernel_rfl) (fun _ _ _ h => h) (Or.inl ⟨by rfl, ?_⟩) ?_ ?_
  rotate_left
  · intro w'
    go_simp
    with_reducible rfl
  rotate_left
  · simp only [Act.put, List.setIfInBounds_toArray, List.set_cons_zero, List.set_cons_succ, i64_w, i32_w]
    rfl
  refine take_ (i := 3) (N := some 6) (v := ?_) (a' := ?_) #[true, true, true, true, false, false, false, false, false, false, false, false, false, false, false, false, false, false, false, false, false, false, false, false, false] rfl rfl (by kernel_rfl) (fun _ _ _ h => h) (Or.inl ⟨by rfl, ?_⟩) hHeld ?_ ?_
  rotate_left
  · rintro w' g3; have s1 := cellAt (i := 1) g3 rfl
    go_simp
    with_reducible rfl
  rotate_left
  · simp only [Act.put, List.setIfInBounds_toArray, List.set_cons_zero, List.set_cons_succ, i64_w, i32_w]
    rfl
  refine pure_ (i := 4) (N := some 7) (v := ?_) (a' := ?_) #[true, true, true, true, true, false, false, false, false, false, false, false, false, false, false, false, false, false, false, false, false, false, false, false, false] rfl rfl (by kernel_rfl) (fun _ _ _ h => h) (Or.inl ⟨by rfl, ?_⟩) ?_ ?_
  rotate_left
  · intro w'
    go_simp
    with_reducible rfl
  rotate_left
  · simp only [Act.put, List.setIfInBounds_toArray, List.set_cons_zero, List.set_cons_succ, i64_w, i32_w]
    rfl
  refine take_ (i := 5) (N := some 8) (v := ?_) (a' := ?_) #[true, true, true, true, true, true, false, false, false, false, false, false, false, false, false, false, false, false, false, false, false, false, false, false, false] rfl rfl (by kernel_rfl) (fun _ _ _ h => h) (Or.inl ⟨by rfl, ?_⟩) hHeld ?_ ?_
  rotate_left
  · rintro w' g3; have s2 := cellAt (i := 2) g3 rfl
    go_simp
    with_reducible rfl
  rotate_left
  · simp only [Act.put, List.setIfInBounds_toArray, List.set_cons_zero, List.set_cons_succ, i64_w, i32_w]
    rfl
  refine pure_ (i := 6) (N := some 9) (v := ?_) (a' := ?_) #[true, true, true, true, true, true, true, false, false, false, false, false, false, false, false, false, false, false, false, false, false, false, false, false, false] rfl rfl (by kernel_rfl) (fun _ _ _ h => h) (Or.inl ⟨by rfl, ?_⟩) ?_ ?_
  rotate_left
  · intro w'
    go_simp
    with_reducible rfl
  rotate_left
  · simp only [Act.put, List.setIfInBounds_toArray, List.set_cons_zero, List.set_cons_succ, i64_w, i32_w]
    rfl
  refine take_ (i := 7) (N := some 10) (v := ?_) (a' := ?_) #[true, true, true, true, true, true, true, true, false, false, false, false, false, false, false, false, false, false, false, false, false, false, false, false, false] rfl rfl (by kernel_rfl) (fun _ _ _ h => h) (Or.inl ⟨by rfl, ?_⟩) hHeld ?_ ?_
  rotate_left
  · rintro w' g3; have s3 := cellAt (i := 3) g3 rfl
    go_simp
    with_reducible rfl
  rotate_left
  · simp only [Act.put, List.setIfInBounds_toArray, List.set_cons_zero, List.set_cons_succ, i64_w, i32_w]
    rfl
  refine pure_ (i := 8) (N := some 11) (v := ?_) (a' := ?_) #[true, true, true, true, true, true, true, true, true, false, false, false, false, false, false, false, false, false, false, false, false, false, false, false, false] rfl rfl (by kernel_rfl) (fun _ _ _ h => h) (Or.inl ⟨by rfl, ?_⟩) ?_ ?_
  rotate_left
  · intro w'
    go_simp
    with_reducible rfl
  rotate_left
  · simp only [Act.put, List.setIfInBounds_toArray, List.set_cons_zero, List.set_cons_succ, i64_w, i32_w]
    rfl
  refine take_ (i := 9) (N := some 12) (v := ?_) (a' := ?_) #[true, true, true, true, true, true, true, true, true, true, false, false, false, false, false, false, false, false, false, false, false, false, false, false, false] rfl rfl (by kernel_rfl) (fun _ _ _ h => h) (Or.inl ⟨by rfl, ?_⟩) hHeld ?_ ?_
  rotate_left
  · rintro w' g3; have s4 := cellAt (i := 4) g3 rfl
    go_simp
    with_reducible rfl
  rotate_left
  · simp only [Act.put, List.setIfInBounds_toArray, List.set_cons_zero, List.set_cons_succ, i64_w, i32_w]
    rfl
  refine pure_ (i := 10) (N := some 13) (v := ?_) (a' := ?_) #[true, true, true, true, true, true, true, true, true, true, true, false, false, false, false, false, false, false, false, false, false, false, false, false, false] rfl rfl (by kernel_rfl) (fun _ _ _ h => h) (Or.inl ⟨by rfl, ?_⟩) ?_ ?_
  rotate_left
  · intro w'
    go_simp
    with_reducible rfl
  rotate_left
  · simp only [Act.put, List.setIfInBounds_toArray, List.set_cons_zero, List.set_cons_succ, i64_w, i32_w]
    rfl
  refine take_ (i := 11) (N := some 14) (v := ?_) (a' := ?_) #[true, true, true, true, true, true, true, true, true, true, true, true, false, false, false, false, false, false, false, false, false, false, false, false, false] rfl rfl (by kernel_rfl) (fun _ _ _ h => h) (Or.inl ⟨by rfl, ?_⟩) hHeld ?_ ?_
  rotate_left
  · rintro w' g3; have s5 := cellAt (i := 5) g3 rfl
    go_simp
    with_reducible rfl
  rotate_left
  · simp only [Act.put, List.setIfInBounds_toArray, List.set_cons_zero, List.set_cons_succ, i64_w, i32_w]
    rfl
  refine pure_ (i := 12) (N := some 15) (v := ?_) (a' := ?_) #[true, true, true, true, true, true, true, true, true, true, true, true, true, false, false, false, false, false, false, false, false, false, false, false, false] rfl rfl (by kernel_rfl) (fun _ _ _ h => h) (Or.inl ⟨by rfl, ?_⟩) ?_ ?_
  rotate_left
  · intro w'
    go_simp
    with_reducible rfl
  rotate_left
  · simp only [Act.put, List.setIfInBounds_toArray, List.set_cons_zero, List.set_cons_succ, i64_w, i32_w]
    rfl
  refine take_ (i := 13) (N := some 16) (v := ?_) (a' := ?_) #[true, true, true, true, true, true, true, true, true, true, true, true, true, true, false, false, false, false, false, false, false, false, false, false, false] rfl rfl (by kernel_rfl) (fun _ _ _ h => h) (Or.inl ⟨by rfl, ?_⟩) hHeld ?_ ?_
  rotate_left
  · rintro w' g3; have s6 := cellAt (i := 6) g3 rfl; have s7 := cellAt (i := 7) g3 rfl; have s8 := cellAt (i := 8) g3 rfl; have s9 := cellAt (i := 9) g3 rfl; have s10 := cellAt (i := 10) g3 rfl
    go_simp
    with_reducible rfl
  rotate_left
  · simp only [Act.put, List.setIfInBounds_toArray, List.set_cons_zero, List.set_cons_succ, i64_w, i32_w]
    rfl
  refine pure_ (i := 15) (N := some 18) (v := ?_) (a' := ?_) #[true, true, true, true, true, true, true, true, true, true, true, true, true, true, false, true, false, false, false, false, false, false, false, false, false] rfl rfl (by kernel_rfl) (fun _ _ _ h => h) (Or.inl ⟨by rfl, ?_⟩) ?_ ?_
  rotate_left
  · intro w'
    go_simp
    with_reducible rfl
  rotate_left
  · simp only [Act.put, List.setIfInBounds_toArray, List.set_cons_zero, List.set_cons_succ, i64_w, i32_w]
    rfl
  refine take_ (i := 16) (N := some 19) (v := ?_) (a' := ?_) #[true, true, true, true, true, true, true, true, true, true, true, true, true, true, false, true, true, false, false, false, false, false, false, false, false] rfl rfl (by kernel_rfl) (fun _ _ _ h => h) (Or.inl ⟨by rfl, ?_⟩) hHeld ?_ ?_
  rotate_left
  · rintro w' g3; have s11 := cellAt (i := 11) g3 rfl; have s12 := cellAt (i := 12) g3 rfl; have s13 := cellAt (i := 13) g3 rfl; have s14 := cellAt (i := 14) g3 rfl
    go_simp
    with_reducible rfl
  rotate_left
  · simp only [Act.put, List.setIfInBounds_toArray, List.set_cons_zero, List.set_cons_succ, i64_w, i32_w]
    rfl
  refine pure_ (i := 17) (N := some 20) (v := ?_) (a' := ?_) #[true, true, true, true, true, true, true, true, true, true, true, true, true, true, false, true, true, true, false, false, false, false, false, false, false] rfl rfl (by kernel_rfl) (fun _ _ _ h => h) (Or.inl ⟨by rfl, ?_⟩) ?_ ?_
  rotate_left
  · intro w'
    go_simp
    with_reducible rfl
  rotate_left
  · simp only [Act.put, List.setIfInBounds_toArray, List.set_cons_zero, List.set_cons_succ, i64_w, i32_w]
    rfl
  refine take_ (i := 18) (N := some 21) (v := ?_) (a' := ?_) #[true, true, true, true, true, true, true, true, true, true, true, true, true, true, false, true, true, true, true, false, false, false, false, false, false] rfl rfl (by kernel_rfl) (fun _ _ _ h => h) (Or.inl ⟨by rfl, ?_⟩) hHeld ?_ ?_
  rotate_left
  · rintro w' g3; have s15 := cellAt (i := 15) g3 rfl
    go_simp
    with_reducible rfl
  rotate_left
  · simp only [Act.put, List.setIfInBounds_toArray, List.set_cons_zero, List.set_cons_succ, i64_w, i32_w]
    rfl
  refine pure_ (i := 19) (N := some 22) (v := ?_) (a' := ?_) #[true, true, true, true, true, true, true, true, true, true, true, true, true, true, false, true, true, true, true, true, false, false, false, false, false] rfl rfl (by kernel_rfl) (fun _ _ _ h => h) (Or.inl ⟨by rfl, ?_⟩) ?_ ?_
  rotate_left
  · intro w'
    go_simp
    with_reducible rfl
  rotate_left
  · simp only [Act.put, List.setIfInBounds_toArray, List.set_cons_zero, List.set_cons_succ, i64_w, i32_w]
    rfl
  refine take_ (i := 20) (N := some 23) (v := ?_) (a' := ?_) #[true, true, true, true, true, true, true, true, true, true, true, true, true, true, false, true, true, true, true, true, true, false, false, false, false] rfl rfl (by kernel_rfl) (fun _ _ _ h => h) (Or.inl ⟨by rfl, ?_⟩) hHeld ?_ ?_
  rotate_left
  · rintro w' g3; have s16 := cellAt (i := 16) g3 rfl
    go_simp
    with_reducible rfl
  rotate_left
  · simp only [Act.put, List.setIfInBounds_toArray, List.set_cons_zero, List.set_cons_succ, i64_w, i32_w]
    rfl
  refine pure_ (i := 21) (N := some 24) (v := ?_) (a' := ?_) #[true, true, true, true, true, true, true, true, true, true, true, true, true, true, false, true, true, true, true, true, true, true, false, false, false] rfl rfl (by kernel_rfl) (fun _ _ _ h => h) (Or.inl ⟨by rfl, ?_⟩) ?_ ?_
  rotate_left
  · intro w'
    go_simp
    with_reducible rfl
  rotate_left
  · simp only [Act.put, List.setIfInBounds_toArray, List.set_cons_zero, List.set_cons_succ, i64_w, i32_w]
    rfl
  refine take_ (i := 22) (N := some 25) (v := ?_) (a' := ?_) #[true, true, true, true, true, true, true, true, true, true, true, true, true, true, false, true, true, true, true, true, true, true, true, false, false] rfl rfl (by kernel_rfl) (fun _ _ _ h => h) (Or.inl ⟨by rfl, ?_⟩) hHeld ?_ ?_
  rotate_left
  · rintro w' g3; have s17 := cellAt (i := 17) g3 rfl
    go_simp
    with_reducible rfl
  rotate_left
  · simp only [Act.put, List.setIfInBounds_toArray, List.set_cons_zero, List.set_cons_succ, i64_w, i32_w]
    rfl
  refine one_ (i := 14) (N := some 17) #[true, true, true, true, true, true, true, true, true, true, true, true, true, true, true, true, true, true, true, true, true, true, true, false, false] rfl rfl (by kernel_rfl) (by decide) (fun K hK => ?_)
  refine goes_ Try.func14 (by kernel_rfl) rfl #[.agg #[.int .u64 rn, .int .u64 re, .int .i64 r3, .int .u64 rm, .slice A n c]] (by rfl) rfl rfl (by (try simp only [List.map_toArray, List.map_cons, List.map_nil]); first | done | rfl) ?_
  with_reducible refine (rec_id rn re r3 rm A n c wd).mono ?_
  rintro e w5 ⟨rfl, hb⟩
  refine ⟨_, rfl, ?_⟩
  have X5 := Aside0.mk (bk0 hHeld hb)
  have Y5 := Aside0.mk (bk0 Y1.out hb)
  have HB5 := Aside0.mk (below_step HB1.out hb)
  clear hb hHeld
  refine hK.out _ _ X5.out (fun hHeld => ?_)
  clear hK K
  refine norm_ (a' := ?_) ?_ ?_
  rotate_left
  · show Act.put _ (some 17) _ = _
    simp only [Act.put, List.setIfInBounds_toArray, List.set_cons_zero, List.set_cons_succ, i64_w, i32_w]
    rfl
  refine pure_ (i := 23) (N := some 26) (v := ?_) (a' := ?_) #[true, true, true, true, true, true, true, true, true, true, true, true, true, true, true, true, true, true, true, true, true, true, true, true, false] rfl rfl (by kernel_rfl) (fun _ _ _ h => h) (Or.inl ⟨by rfl, ?_⟩) ?_ ?_
  rotate_left
  · intro w'
    go_simp
    with_reducible rfl
  rotate_left
  · simp only [Act.put, List.setIfInBounds_toArray, List.set_cons_zero, List.set_cons_succ, i64_w, i32_w]
    rfl
  refine last_ (i := 24) (N := none) #[true, true, true, true, true, true, true, true, true, true, true, true, true, true, true, true, true, true, true, true, true, true, true, true, true] rfl rfl (by kernel_rfl) (by decide) (fun K hK => ?_)
  refine storeRow_ rfl (ty := 56) (p := 2) rfl rfl (w.heap.size + 1) #[.int .i64 k, .string d, .int .u32 inc, .int .u64 holds, .bool has, .bool dir, .int .u64 rn, .int .u64 re, .int .i64 r3, .int .u64 rm, .slice A n c, .int .u64 vn, .int .u64 ve, .int .i64 vr, .int .u64 vm, .int .u64 nb, .int .i64 ix, .int .i64 tt] rfl rfl 56 #[.int .i64 0, .string ⟨#[]⟩, .int .u32 0, .int .u64 0, .bool false, .bool false, .int .u64 0, .int .u64 0, .int .i64 0, .int .u64 0, .slice none 0 0, .int .u64 0, .int .u64 0, .int .i64 0, .int .u64 0, .int .u64 0, .int .i64 0, .int .i64 0] Y5.out (by kernel_rfl) rfl (by simp [Value.oneCell']) ?_
  intro w7 h7
  have P7 := Aside0.mk h7.at_
  have B7 := Aside0.mk (h7.bel w HB5.out (Nat.le_succ _))
  refine hK.out _ _ ?_
  clear hK K h7
  refine done_ (by kernel_rfl) ?_
  go_wp2
  refine bodyPost_ret (results_cell_row rfl _ _ (w.heap.size + 1) 56 #[.int .i64 k, .string d, .int .u32 inc, .int .u64 holds, .bool has, .bool dir, .int .u64 rn, .int .u64 re, .int .i64 r3, .int .u64 rm, .slice A n c, .int .u64 vn, .int .u64 ve, .int .i64 vr, .int .u64 vm, .int .u64 nb, .int .i64 ix, .int .i64 tt] (0, 0) _ rfl P7.out Try.underlying56 rfl (by kernel_rfl)) rfl ?_
  exact ⟨rfl, B7.out⟩
theorem exec_load {P : Program} {W : World} {ev : Operand → Value} {o : Oper} (x : Operand) (t : TypeId) (ho : o.op = .load t x) {p : Addr} (hx : ev x = .pointer (some p)) {v : Value}
    (hv : (Instr.loadAt t (.pointer (some p))).run P W = .ok v W) : (execOp ev o).run P W = .ok (.value v) W := by
  simp only [execOp, ho, hx]
  generalize Instr.loadAt t (.pointer (some p)) = m at *
  go_simp
theorem load32 {W : World} {b : Nat} {v0 v1 v2 v3 v4 v5 v6 : Value} (h : W.heap[b]? = some (.cells #[v0, v1, v2, v3, v4, v5, v6] 32 (0, 0))) :
    (Instr.loadAt 32 (.pointer (some ⟨b, 0, none⟩))).run Try.prog W = .ok (.agg #[v0, v1, v2, v3, v4, v5, v6]) W := by
  refine load_agg [v0, v1, v2, v3, v4, v5, v6] (by kernel_rfl) (by kernel_rfl) (fun j u hj => ?_)
  rw [add_plain]
  refine cellAt h ?_
  simpa using hj
theorem load44 {W : World} {b : Nat} {v0 v1 v2 v3 v4 v5 v6 : Value} (h : W.heap[b]? = some (.cells #[v0, v1, v2, v3, v4, v5, v6] 44 (0, 0))) :
    (Instr.loadAt 44 (.pointer (some ⟨b, 0, none⟩))).run Try.prog W = .ok (.agg #[v0, v1, v2, v3, v4, v5, v6]) W := by
  refine load_agg [v0, v1, v2, v3, v4, v5, v6] (by kernel_rfl) (by kernel_rfl) (fun j u hj => ?_)
  rw [add_plain]
  refine cellAt h ?_
  simpa using hj
/-- A block that holds a row that is only read. -/
structure Dk (W : World) (g t : Nat) (cs : Array Value) (A : Option Addr) (c : Nat) (l : List S27) : Prop where
  x : W.heap[g]? = some (.cells cs t (0, 0))
  len : l.length ≤ c
  rd : Kd.C k27 W A l.length l
theorem Dk.below {W W1 : World} {g t : Nat} {cs : Array Value} {A : Option Addr} {c : Nat} {l : List S27} (h : Dk W g t cs A c l) (hb : Below W.heap.size W W1) : Dk W1 g t cs A c l :=
  ⟨bk0 h.x hb, h.len, C27_keep h.rd hb (KeepBut.refl _ W.heap.size _) (Nat.le_refl _)⟩
theorem Dk.of {W w7 : World} {t : Nat} {o : Obj} {cs : Array Value} {A : Option Addr} {c : Nat} {l : List S27} (h7 : Put1 (W.alloc o) w7 W.heap.size cs t) (hl : l.length ≤ c) (hC : Kd.C k27 W A l.length l) : Dk w7 W.heap.size t cs A c l :=
  ⟨h7.at_, hl, C27_keep hC (h7.bel W (below_alloc (Below.refl _ _) _) (Nat.le_refl _)) (KeepBut.refl _ W.heap.size _) (Nat.le_refl _)⟩
set_option maxHeartbeats 8000000 in
set_option maxRecDepth 100000 in
theorem items_true (y0_ : Int) (y1_ : ByteArray) (y2_ y3_ : Int) (y4_ y5_ : Bool) (y6_ y7_ y8_ y9_ : Int) (ly : List S27) (y11_ y12_ y13_ y14_ y15_ y16_ y17_ : Int) (A : Option Addr) (c : Nat) (A' : Option Addr) (c' : Nat) (w : World) (hl : ly.length ≤ 1000) (r1 : Kd.C k27 w A ly.length ly) (l1 : ly.length ≤ c) (r2 : Kd.C k27 w A' ly.length ly) (l2 : ly.length ≤ c') :
    Calls Try.prog 17 #[.agg #[.int .i64 y0_, .string y1_, .int .u32 y2_, .int .u64 y3_, .bool y4_, .bool y5_, .int .u64 y6_, .int .u64 y7_, .int .i64 y8_, .int .u64 y9_, .slice A ly.length c, .int .u64 y11_, .int .u64 y12_, .int .i64 y13_, .int .u64 y14_, .int .u64 y15_, .int .i64 y16_, .int .i64 y17_], .agg #[.int .i64 y0_, .string y1_, .int .u32 y2_, .int .u64 y3_, .bool y4_, .bool y5_, .int .u64 y6_, .int .u64 y7_, .int .i64 y8_, .int .u64 y9_, .slice A' ly.length c', .int .u64 y11_, .int .u64 y12_, .int .i64 y13_, .int .u64 y14_, .int .u64 y15_, .int .i64 y16_, .int .i64 y17_]] w fun e w' => e = .returned (.bool true) ∧ Below w.heap.size w w' := by
  have HSM := Aside0.mk (Pure.same_same ly hl y6_ y7_ y8_ y9_)
  have R1 := Aside0.mk r1
  have L1 := Aside0.mk l1
  have R2 := Aside0.mk r2
  have L2 := Aside0.mk l2
  clear r1 l1 r2 l2 hl
  go_enter Try.func17, Try.ntmps17
  go_wp2_with (first | ((with_reducible refine gate_dst (N := 2) rfl ?_); refine box_event ?hg (N := 2) ?hd (cs := #[.int .i64 y0_, .string y1_, .int .u32 y2_, .int .u64 y3_, .bool y4_, .bool y5_, .int .u64 y6_, .int .u64 y7_, .int .i64 y8_, .int .u64 y9_, .slice A ly.length c, .int .u64 y11_, .int .u64 y12_, .int .i64 y13_, .int .u64 y14_, .int .u64 y15_, .int .i64 y16_, .int .i64 y17_]) (t := 56) ?hr ?_; (case hd => rfl); (case hg => rfl); (case hr => first | (go_simp; done) | (go_simp; rfl)); intro g2 hg w2 hbox hb; have D2 := Aside0.mk (Dk.mk hbox L1.out (C27_keep R1.out hb (KeepBut.refl _ w.heap.size _) (Nat.le_refl _))); have HB2 := Aside0.mk hb; have E2 := Aside0.mk (C27_keep R2.out hb (KeepBut.refl _ w.heap.size _) (Nat.le_refl _));  clear hg hbox hb) | ((with_reducible refine gate_dst (N := 3) rfl ?_); refine box_event ?hg (N := 3) ?hd (cs := #[.int .i64 y0_, .string y1_, .int .u32 y2_, .int .u64 y3_, .bool y4_, .bool y5_, .int .u64 y6_, .int .u64 y7_, .int .i64 y8_, .int .u64 y9_, .slice A' ly.length c', .int .u64 y11_, .int .u64 y12_, .int .i64 y13_, .int .u64 y14_, .int .u64 y15_, .int .i64 y16_, .int .i64 y17_]) (t := 56) ?hr ?_; (case hd => rfl); (case hg => rfl); (case hr => first | (go_simp; done) | (go_simp; rfl)); intro g3 hg w3 hbox hb; have F3 := Aside0.mk (Dk.mk hbox L2.out (C27_keep E2.out hb (KeepBut.refl _ w2.heap.size _) (Nat.le_refl _))); have HB3 := Aside0.mk (below_step HB2.out hb); have D3 := Aside0.mk (D2.out.below hb); have s0 := cellAt (i := 0) D3.out.x rfl; have s1 := cellAt (i := 1) D3.out.x rfl; have s2 := cellAt (i := 2) D3.out.x rfl; have s3 := cellAt (i := 3) D3.out.x rfl; have s4 := cellAt (i := 4) D3.out.x rfl; have s5 := cellAt (i := 5) D3.out.x rfl; have s6 := cellAt (i := 6) D3.out.x rfl; have s7 := cellAt (i := 7) D3.out.x rfl; have s8 := cellAt (i := 8) D3.out.x rfl; have s9 := cellAt (i := 9) D3.out.x rfl; have s10 := cellAt (i := 10) D3.out.x rfl; have s11 := cellAt (i := 11) D3.out.x rfl; have s12 := cellAt (i := 12) D3.out.x rfl; have s13 := cellAt (i := 13) D3.out.x rfl; have s14 := cellAt (i := 14) D3.out.x rfl; have s15 := cellAt (i := 15) D3.out.x rfl; have s16 := cellAt (i := 16) D3.out.x rfl; have s17 := cellAt (i := 17) D3.out.x rfl; have u0 := cellAt (i := 0) F3.out.x rfl; have u1 := cellAt (i := 1) F3.out.x rfl; have u2 := cellAt (i := 2) F3.out.x rfl; have u3 := cellAt (i := 3) F3.out.x rfl; have u4 := cellAt (i := 4) F3.out.x rfl; have u5 := cellAt (i := 5) F3.out.x rfl; have u6 := cellAt (i := 6) F3.out.x rfl; have u7 := cellAt (i := 7) F3.out.x rfl; have u8 := cellAt (i := 8) F3.out.x rfl; have u9 := cellAt (i := 9) F3.out.x rfl; have u10 := cellAt (i := 10) F3.out.x rfl; have u11 := cellAt (i := 11) F3.out.x rfl; have u12 := cellAt (i := 12) F3.out.x rfl; have u13 := cellAt (i := 13) F3.out.x rfl; have u14 := cellAt (i := 14) F3.out.x rfl; have u15 := cellAt (i := 15) F3.out.x rfl; have u16 := cellAt (i := 16) F3.out.x rfl; have u17 := cellAt (i := 17) F3.out.x rfl; clear hg hbox hb) | (go_at_call 13; (with_reducible refine (consortref18_Same.calls 1002 y6_ y7_ y8_ y9_ A c ly y6_ y7_ y8_ y9_ A' c' ly true _ D3.out.rd D3.out.len F3.out.rd F3.out.len HSM.out).mono ?_); clear s0 u0 s1 u1 s2 u2 s3 u3 s4 u4 s5 u5 s6 u6 s7 u7 s8 u8 s9 u9 s10 u10 s11 u11 s12 u12 s13 u13 s14 u14 s15 u15 s16 u16 s17 u17; rintro _ w5 ⟨rfl, hb⟩; have HB5 := Aside0.mk (below_step HB3.out hb); have D5 := Aside0.mk (D3.out.below hb); have F5 := Aside0.mk (F3.out.below hb); have s11 := cellAt (i := 11) D5.out.x rfl; have s12 := cellAt (i := 12) D5.out.x rfl; have s13 := cellAt (i := 13) D5.out.x rfl; have s14 := cellAt (i := 14) D5.out.x rfl; have s15 := cellAt (i := 15) D5.out.x rfl; have s16 := cellAt (i := 16) D5.out.x rfl; have s17 := cellAt (i := 17) D5.out.x rfl; have u11 := cellAt (i := 11) F5.out.x rfl; have u12 := cellAt (i := 12) F5.out.x rfl; have u13 := cellAt (i := 13) F5.out.x rfl; have u14 := cellAt (i := 14) F5.out.x rfl; have u15 := cellAt (i := 15) F5.out.x rfl; have u16 := cellAt (i := 16) F5.out.x rfl; have u17 := cellAt (i := 17) F5.out.x rfl; clear hb))
  go_ret
  exact ⟨rfl, HB5.out⟩
set_option maxHeartbeats 8000000 in
set_option maxRecDepth 100000 in
theorem parses_long (s : ByteArray) (w : World) (h1 : 5000 < s.size) : Calls Try.prog 5 #[.string s] w fun e w' => e = .returned (.bool true) ∧ Below w.heap.size w w' := by
  have b0 : decide (5000 < (s.size : Int)) = true := decide_eq_true (by omega)
  clear h1
  go_enter Try.func5, Try.ntmps5
  go_wp2_with (first | (go_at_call 6; (with_reducible refine (consortlaw19_awake.calls true _ rfl).mono ?_); rintro e w1 ⟨rfl, hb⟩; have HB1 := Aside0.mk hb; clear hb))
  go_ret
  exact ⟨rfl, HB1.out⟩
set_option maxHeartbeats 8000000 in
set_option maxRecDepth 100000 in
theorem parses_walk (s : ByteArray) (p0 p1 q0 q1 q2 q3 : Int) (l : List S27) (eu : Int) (y0_ : Int) (y1_ : ByteArray) (y2_ y3_ : Int) (y4_ y5_ : Bool) (y6_ y7_ y8_ y9_ : Int) (ly : List S27) (y11_ y12_ y13_ y14_ y15_ y16_ y17_ ey : Int) (w : World) (h1 : s.size ≤ 5000) (pa : log_Parse.f s = some (p0, p1, q0, q1, q2, q3, l, eu)) (pi : log_ParseItem.f s = some (y0_, y1_, y2_, y3_, y4_, y5_, y6_, y7_, y8_, y9_, ly, y11_, y12_, y13_, y14_, y15_, y16_, y17_, ey)) (hl : l.length ≤ 1000) (hly : ly.length ≤ 1000) : Calls Try.prog 5 #[.string s] w fun e w' => e = .returned (.bool true) ∧ Below w.heap.size w w' := by
  have b0 : decide (5000 < (s.size : Int)) = false := decide_eq_false (by omega)
  have PA := Aside0.mk pa
  have PI := Aside0.mk pi
  have PB := Aside0.mk (show consortref19_Parse.f s = some (p0, p1, q0, q1, q2, q3, l, eu) from pa)
  have PJ := Aside0.mk (show consortref19_ParseItem.f s = some (y0_, y1_, y2_, y3_, y4_, y5_, y6_, y7_, y8_, y9_, ly, y11_, y12_, y13_, y14_, y15_, y16_, y17_, ey) from pi)
  have HSS := Aside0.mk (Pure.stables_same l hl p0 p1 q0 q1 q2 q3)
  have HIS := Aside0.mk hly
  clear h1 pa pi hl hly
  go_enter Try.func5, Try.ntmps5
  go_upto_region 9 with (first | (go_at_call 6; (with_reducible refine (consortlaw19_awake.calls true _ rfl).mono ?_); rintro e w1 ⟨rfl, hb⟩; have HB1 := Aside0.mk hb; clear hb) | (go_at_call 8; (with_reducible refine (log_Parse.calls s p0 p1 q0 q1 q2 q3 l eu _ PA.out).mono ?_); rintro _ w2 ⟨v2, rfl, ho, hb⟩; obtain ⟨A2, c2, rfl⟩ := Kd.R_slice ho; have R2 := Aside0.mk (Kd.R_reads' ho); have HB2 := Aside0.mk (below_step HB1.out hb);  clear ho hb) | ((with_reducible refine gate_store (t := 32) (p := 3) rfl ?_); refine store_row_event rfl (ty := 32) (p := 3) rfl rfl w2.heap.size #[.int .u64 p0, .int .u32 p1, .int .u64 q0, .int .u64 q1, .int .i64 q2, .int .u64 q3, .slice A2 l.length c2] rfl rfl 32 #[.int .u64 0, .int .u32 0, .int .u64 0, .int .u64 0, .int .i64 0, .int .u64 0, .slice none 0 0] (heap_alloc_new w2 _) (by kernel_rfl) rfl (by simp [Value.oneCell']) ?_; intro w3 h7; have HBx := Aside0.mk (h7.bel w2 (below_alloc (Below.refl _ _) _) (Nat.le_refl _)); have Da3 := Aside0.mk (Dk.of h7 R2.out.2.1 R2.out.2.2); have HB3 := Aside0.mk (below_step HB2.out HBx.out);  clear h7 HBx) | (go_at_call 15; (with_reducible refine (consortref19_Parse.calls s p0 p1 q0 q1 q2 q3 l eu _ PB.out).mono ?_); rintro _ w4 ⟨v4, rfl, ho, hb⟩; obtain ⟨A4, c4, rfl⟩ := Kd.R_slice ho; have R4 := Aside0.mk (Kd.R_reads' ho); have HB4 := Aside0.mk (below_step HB3.out hb); have Da4 := Aside0.mk (Da3.out.below hb); clear ho hb) | ((with_reducible refine gate_store (t := 44) (p := 5) rfl ?_); refine store_row_event rfl (ty := 44) (p := 5) rfl rfl w4.heap.size #[.int .u64 p0, .int .u32 p1, .int .u64 q0, .int .u64 q1, .int .i64 q2, .int .u64 q3, .slice A4 l.length c4] rfl rfl 44 #[.int .u64 0, .int .u32 0, .int .u64 0, .int .u64 0, .int .i64 0, .int .u64 0, .slice none 0 0] (heap_alloc_new w4 _) (by kernel_rfl) rfl (by simp [Value.oneCell']) ?_; intro w5 h7; have HBx := Aside0.mk (h7.bel w4 (below_alloc (Below.refl _ _) _) (Nat.le_refl _)); have Db5 := Aside0.mk (Dk.of h7 R4.out.2.1 R4.out.2.2); have HB5 := Aside0.mk (below_step HB4.out HBx.out); have Da5 := Aside0.mk (Da4.out.below HBx.out); clear h7 HBx) | (go_at_call 12; (with_reducible refine (log_ParseItem.calls s y0_ y1_ y2_ y3_ y4_ y5_ y6_ y7_ y8_ y9_ ly y11_ y12_ y13_ y14_ y15_ y16_ y17_ ey _ PI.out).mono ?_); rintro _ w6 ⟨v6, rfl, ho, hb⟩; obtain ⟨A6, c6, rfl⟩ := Kd.R_slice ho; have R6 := Aside0.mk (Kd.R_reads' ho); have HB6 := Aside0.mk (below_step HB5.out hb); have Da6 := Aside0.mk (Da5.out.below hb); have Db6 := Aside0.mk (Db5.out.below hb); clear ho hb) | ((with_reducible refine gate_store (t := 34) (p := 7) rfl ?_); refine store_row_event rfl (ty := 34) (p := 7) rfl rfl w6.heap.size #[.int .i64 y0_, .string y1_, .int .u32 y2_, .int .u64 y3_, .bool y4_, .bool y5_, .int .u64 y6_, .int .u64 y7_, .int .i64 y8_, .int .u64 y9_, .slice A6 ly.length c6, .int .u64 y11_, .int .u64 y12_, .int .i64 y13_, .int .u64 y14_, .int .u64 y15_, .int .i64 y16_, .int .i64 y17_] rfl rfl 34 #[.int .i64 0, .string ⟨#[]⟩, .int .u32 0, .int .u64 0, .bool false, .bool false, .int .u64 0, .int .u64 0, .int .i64 0, .int .u64 0, .slice none 0 0, .int .u64 0, .int .u64 0, .int .i64 0, .int .u64 0, .int .u64 0, .int .i64 0, .int .i64 0] (heap_alloc_new w6 _) (by kernel_rfl) rfl (by simp [Value.oneCell']) ?_; intro w7 h7; have HBx := Aside0.mk (h7.bel w6 (below_alloc (Below.refl _ _) _) (Nat.le_refl _)); have Dc7 := Aside0.mk (Dk.of h7 R6.out.2.1 R6.out.2.2); have HB7 := Aside0.mk (below_step HB6.out HBx.out); have Da7 := Aside0.mk (Da6.out.below HBx.out); have Db7 := Aside0.mk (Db6.out.below HBx.out); clear h7 HBx) | (go_at_call 16; (with_reducible refine (consortref19_ParseItem.calls s y0_ y1_ y2_ y3_ y4_ y5_ y6_ y7_ y8_ y9_ ly y11_ y12_ y13_ y14_ y15_ y16_ y17_ ey _ PJ.out).mono ?_); rintro _ w8 ⟨v8, rfl, ho, hb⟩; obtain ⟨A8, c8, rfl⟩ := Kd.R_slice ho; have R8 := Aside0.mk (Kd.R_reads' ho); have HB8 := Aside0.mk (below_step HB7.out hb); have Da8 := Aside0.mk (Da7.out.below hb); have Db8 := Aside0.mk (Db7.out.below hb); have Dc8 := Aside0.mk (Dc7.out.below hb); clear ho hb) | ((with_reducible refine gate_store (t := 56) (p := 9) rfl ?_); refine store_row_event rfl (ty := 56) (p := 9) rfl rfl w8.heap.size #[.int .i64 y0_, .string y1_, .int .u32 y2_, .int .u64 y3_, .bool y4_, .bool y5_, .int .u64 y6_, .int .u64 y7_, .int .i64 y8_, .int .u64 y9_, .slice A8 ly.length c8, .int .u64 y11_, .int .u64 y12_, .int .i64 y13_, .int .u64 y14_, .int .u64 y15_, .int .i64 y16_, .int .i64 y17_] rfl rfl 56 #[.int .i64 0, .string ⟨#[]⟩, .int .u32 0, .int .u64 0, .bool false, .bool false, .int .u64 0, .int .u64 0, .int .i64 0, .int .u64 0, .slice none 0 0, .int .u64 0, .int .u64 0, .int .i64 0, .int .u64 0, .int .u64 0, .int .i64 0, .int .i64 0] (heap_alloc_new w8 _) (by kernel_rfl) rfl (by simp [Value.oneCell']) ?_; intro w9 h7; have HBx := Aside0.mk (h7.bel w8 (below_alloc (Below.refl _ _) _) (Nat.le_refl _)); have Dd9 := Aside0.mk (Dk.of h7 R8.out.2.1 R8.out.2.2); have HB9 := Aside0.mk (below_step HB8.out HBx.out); have Da9 := Aside0.mk (Da8.out.below HBx.out); have Db9 := Aside0.mk (Db8.out.below HBx.out); have Dc9 := Aside0.mk (Dc8.out.below HBx.out); clear h7 HBx))
  refine start_ (n := 21) (S := fun w' : World => w'.heap[w2.heap.size]? = some (.cells #[.int .u64 p0, .int .u32 p1, .int .u64 q0, .int .u64 q1, .int .i64 q2, .int .u64 q3, .slice A2 l.length c2] 32 (0, 0)) ∧ w'.heap[w4.heap.size]? = some (.cells #[.int .u64 p0, .int .u32 p1, .int .u64 q0, .int .u64 q1, .int .i64 q2, .int .u64 q3, .slice A4 l.length c4] 44 (0, 0)) ∧ w'.heap[w6.heap.size]? = some (.cells #[.int .i64 y0_, .string y1_, .int .u32 y2_, .int .u64 y3_, .bool y4_, .bool y5_, .int .u64 y6_, .int .u64 y7_, .int .i64 y8_, .int .u64 y9_, .slice A6 ly.length c6, .int .u64 y11_, .int .u64 y12_, .int .i64 y13_, .int .u64 y14_, .int .u64 y15_, .int .i64 y16_, .int .i64 y17_] 34 (0, 0)) ∧ w'.heap[w8.heap.size]? = some (.cells #[.int .i64 y0_, .string y1_, .int .u32 y2_, .int .u64 y3_, .bool y4_, .bool y5_, .int .u64 y6_, .int .u64 y7_, .int .i64 y8_, .int .u64 y9_, .slice A8 ly.length c8, .int .u64 y11_, .int .u64 y12_, .int .i64 y13_, .int .u64 y14_, .int .u64 y15_, .int .i64 y16_, .int .i64 y17_] 56 (0, 0))) (ds := []) #[false, false, false, false, false, false, false, false, false, false, false, false, false, false, false, false, false, false, false, false, false] (by kernel_rfl) rfl rfl ⟨Da9.out.x, Db9.out.x, Dc9.out.x, Dd9.out.x⟩ (fun hHeld => ?_)
  have HBd := Aside0.mk (show Below w9.heap.size w9 w9.drew from below_drew (Below.refl _ _))
  have HB10 := Aside0.mk (below_step HB9.out HBd.out)
  have Da10 := Aside0.mk (Da9.out.below HBd.out)
  have Db10 := Aside0.mk (Db9.out.below HBd.out)
  have Dc10 := Aside0.mk (Dc9.out.below HBd.out)
  have Dd10 := Aside0.mk (Dd9.out.below HBd.out)
  clear HBd
  generalize w9.drew = w10 at HB10 Da10 Db10 Dc10 Dd10 hHeld ⊢
  refine take_ (i := 0) (N := some 36) (v := ?_) (a' := ?_) #[true, false, false, false, false, false, false, false, false, false, false, false, false, false, false, false, false, false, false, false, false] rfl rfl (by kernel_rfl) (fun _ _ _ h => h) (Or.inl ⟨by rfl, ?_⟩) hHeld ?_ ?_
  rotate_left
  · rintro w' ⟨g1, g2, g3, g4⟩
    refine Eq.trans (exec_load (P := Try.prog) (W := w') (.tmp 3) 32 rfl rfl (load32 g1)) ?_
    with_reducible rfl
  rotate_left
  · simp only [Act.put, List.setIfInBounds_toArray, List.set_cons_zero, List.set_cons_succ, i64_w, i32_w]
    rfl
  refine take_ (i := 2) (N := some 38) (v := ?_) (a' := ?_) #[true, false, true, false, false, false, false, false, false, false, false, false, false, false, false, false, false, false, false, false, false] rfl rfl (by kernel_rfl) (fun _ _ _ h => h) (Or.inl ⟨by rfl, ?_⟩) hHeld ?_ ?_
  rotate_left
  · rintro w' ⟨g1, g2, g3, g4⟩
    refine Eq.trans (exec_load (P := Try.prog) (W := w') (.tmp 5) 44 rfl rfl (load44 g2)) ?_
    with_reducible rfl
  rotate_left
  · simp only [Act.put, List.setIfInBounds_toArray, List.set_cons_zero, List.set_cons_succ, i64_w, i32_w]
    rfl
  refine one_ (i := 1) (N := some 37) #[true, true, true, false, false, false, false, false, false, false, false, false, false, false, false, false, false, false, false, false, false] rfl rfl (by kernel_rfl) (by decide) (fun K hK => ?_)
  refine goes_ Try.func10 (by kernel_rfl) rfl #[.agg #[.int .u64 p0, .int .u32 p1, .int .u64 q0, .int .u64 q1, .int .i64 q2, .int .u64 q3, .slice A2 l.length c2]] (by rfl) rfl rfl (by (try simp only [List.map_toArray, List.map_cons, List.map_nil]); first | done | rfl) ?_
  with_reducible refine (stable_id p0 p1 q0 q1 q2 q3 A2 l.length c2 w10).mono ?_
  rintro _ w11 ⟨rfl, hb⟩
  refine ⟨_, rfl, ?_⟩
  have HB11 := Aside0.mk (below_step HB10.out hb)
  have Da11 := Aside0.mk (Da10.out.below hb)
  have Db11 := Aside0.mk (Db10.out.below hb)
  have Dc11 := Aside0.mk (Dc10.out.below hb)
  have Dd11 := Aside0.mk (Dd10.out.below hb)
  clear hb hHeld
  refine hK.out _ _ ⟨Da11.out.x, Db11.out.x, Dc11.out.x, Dd11.out.x⟩ (fun hHeld => ?_)
  clear hK K
  refine norm_ (a' := ?_) ?_ ?_
  rotate_left
  · show Act.put _ (some 37) _ = _
    simp only [Act.put, List.setIfInBounds_toArray, List.set_cons_zero, List.set_cons_succ, i64_w, i32_w]
    rfl
  refine one_ (i := 3) (N := some 39) #[true, true, true, true, false, false, false, false, false, false, false, false, false, false, false, false, false, false, false, false, false] rfl rfl (by kernel_rfl) (by decide) (fun K hK => ?_)
  refine goes_ Try.func9 (by kernel_rfl) rfl #[.agg #[.int .u64 p0, .int .u32 p1, .int .u64 q0, .int .u64 q1, .int .i64 q2, .int .u64 q3, .slice A2 l.length c2], .agg #[.int .u64 p0, .int .u32 p1, .int .u64 q0, .int .u64 q1, .int .i64 q2, .int .u64 q3, .slice A4 l.length c4]] (by rfl) rfl rfl (by (try simp only [List.map_toArray, List.map_cons, List.map_nil]); first | done | rfl) ?_
  with_reducible refine (consortref19_Stables.calls 1002 p0 p1 q0 q1 q2 q3 A2 c2 l p0 p1 q0 q1 q2 q3 A4 c4 l true w11 Da11.out.rd Da11.out.len Db11.out.rd Db11.out.len HSS.out).mono ?_
  rintro _ w12 ⟨rfl, hb⟩
  refine ⟨_, rfl, ?_⟩
  have HB12 := Aside0.mk (below_step HB11.out hb)
  have Da12 := Aside0.mk (Da11.out.below hb)
  have Db12 := Aside0.mk (Db11.out.below hb)
  have Dc12 := Aside0.mk (Dc11.out.below hb)
  have Dd12 := Aside0.mk (Dd11.out.below hb)
  clear hb hHeld
  refine hK.out _ _ ⟨Da12.out.x, Db12.out.x, Dc12.out.x, Dd12.out.x⟩ (fun hHeld => ?_)
  clear hK K
  refine norm_ (a' := ?_) ?_ ?_
  rotate_left
  · show Act.put _ (some 39) _ = _
    simp only [Act.put, List.setIfInBounds_toArray, List.set_cons_zero, List.set_cons_succ, i64_w, i32_w]
    rfl
  refine pure_ (i := 4) (N := some 40) (v := ?_) (a' := ?_) #[true, true, true, true, true, false, false, false, false, false, false, false, false, false, false, false, false, false, false, false, false] rfl rfl (by kernel_rfl) (fun _ _ _ h => h) (Or.inl ⟨by rfl, ?_⟩) ?_ ?_
  rotate_left
  · intro w'
    go_simp
    with_reducible rfl
  rotate_left
  · simp only [Act.put, List.setIfInBounds_toArray, List.set_cons_zero, List.set_cons_succ, i64_w, i32_w]
    rfl
  refine pure_ (i := 5) (N := some 41) (v := ?_) (a' := ?_) #[true, true, true, true, true, true, false, false, false, false, false, false, false, false, false, false, false, false, false, false, false] rfl rfl (by kernel_rfl) (fun _ _ _ h => h) (Or.inl ⟨by rfl, ?_⟩) ?_ ?_
  rotate_left
  · intro w'
    go_simp
    with_reducible rfl
  rotate_left
  · simp only [Act.put, List.setIfInBounds_toArray, List.set_cons_zero, List.set_cons_succ, i64_w, i32_w]
    rfl
  refine pure_ (i := 6) (N := some 42) (v := ?_) (a' := ?_) #[true, true, true, true, true, true, true, false, false, false, false, false, false, false, false, false, false, false, false, false, false] rfl rfl (by kernel_rfl) (fun _ _ _ h => h) (Or.inl ⟨by rfl, ?_⟩) ?_ ?_
  rotate_left
  · intro w'
    go_simp
    with_reducible rfl
  rotate_left
  · simp only [Act.put, List.setIfInBounds_toArray, List.set_cons_zero, List.set_cons_succ, i64_w, i32_w]
    rfl
  refine pure_ (i := 7) (N := some 43) (v := ?_) (a' := ?_) #[true, true, true, true, true, true, true, true, false, false, false, false, false, false, false, false, false, false, false, false, false] rfl rfl (by kernel_rfl) (fun _ _ _ h => h) (Or.inl ⟨by rfl, ?_⟩) ?_ ?_
  rotate_left
  · intro w'
    go_simp
    with_reducible rfl
  rotate_left
  · simp only [Act.put, List.setIfInBounds_toArray, List.set_cons_zero, List.set_cons_succ, i64_w, i32_w]
    rfl
  refine pure_ (i := 8) (N := some 44) (v := ?_) (a' := ?_) #[true, true, true, true, true, true, true, true, true, false, false, false, false, false, false, false, false, false, false, false, false] rfl rfl (by kernel_rfl) (fun _ _ _ h => h) (Or.inl ⟨by rfl, ?_⟩) ?_ ?_
  rotate_left
  · intro w'
    go_simp
    with_reducible rfl
  rotate_left
  · simp only [Act.put, List.setIfInBounds_toArray, List.set_cons_zero, List.set_cons_succ, i64_w, i32_w]
    rfl
  refine pure_ (i := 9) (N := some 45) (v := ?_) (a' := ?_) #[true, true, true, true, true, true, true, true, true, true, false, false, false, false, false, false, false, false, false, false, false] rfl rfl (by kernel_rfl) (fun _ _ _ h => h) (Or.inl ⟨by rfl, ?_⟩) ?_ ?_
  rotate_left
  · intro w'
    go_simp
    with_reducible rfl
  rotate_left
  · simp only [Act.put, List.setIfInBounds_toArray, List.set_cons_zero, List.set_cons_succ, i64_w, i32_w]
    rfl
  refine take_ (i := 10) (N := some 46) (v := ?_) (a' := ?_) #[true, true, true, true, true, true, true, true, true, true, true, false, false, false, false, false, false, false, false, false, false] rfl rfl (by kernel_rfl) (fun _ _ _ h => h) (Or.inl ⟨by rfl, ?_⟩) hHeld ?_ ?_
  rotate_left
  · rintro w' ⟨g1, g2, g3, g4⟩
    refine Eq.trans (exec_load (P := Try.prog) (W := w') (.tmp 7) 34 rfl rfl (load34 g3)) ?_
    with_reducible rfl
  rotate_left
  · simp only [Act.put, List.setIfInBounds_toArray, List.set_cons_zero, List.set_cons_succ, i64_w, i32_w]
    rfl
  refine take_ (i := 12) (N := some 48) (v := ?_) (a' := ?_) #[true, true, true, true, true, true, true, true, true, true, true, false, true, false, false, false, false, false, false, false, false] rfl rfl (by kernel_rfl) (fun _ _ _ h => h) (Or.inl ⟨by rfl, ?_⟩) hHeld ?_ ?_
  rotate_left
  · rintro w' ⟨g1, g2, g3, g4⟩
    refine Eq.trans (exec_load (P := Try.prog) (W := w') (.tmp 9) 56 rfl rfl (load56 g4)) ?_
    with_reducible rfl
  rotate_left
  · simp only [Act.put, List.setIfInBounds_toArray, List.set_cons_zero, List.set_cons_succ, i64_w, i32_w]
    rfl
  refine one_ (i := 11) (N := some 47) #[true, true, true, true, true, true, true, true, true, true, true, true, true, false, false, false, false, false, false, false, false] rfl rfl (by kernel_rfl) (by decide) (fun K hK => ?_)
  refine goes_ Try.func18 (by kernel_rfl) rfl #[.agg #[.int .i64 y0_, .string y1_, .int .u32 y2_, .int .u64 y3_, .bool y4_, .bool y5_, .int .u64 y6_, .int .u64 y7_, .int .i64 y8_, .int .u64 y9_, .slice A6 ly.length c6, .int .u64 y11_, .int .u64 y12_, .int .i64 y13_, .int .u64 y14_, .int .u64 y15_, .int .i64 y16_, .int .i64 y17_]] (by rfl) rfl rfl (by (try simp only [List.map_toArray, List.map_cons, List.map_nil]); first | done | rfl) ?_
  with_reducible refine (item_id y0_ y1_ y2_ y3_ y4_ y5_ y6_ y7_ y8_ y9_ A6 ly.length c6 y11_ y12_ y13_ y14_ y15_ y16_ y17_ w12).mono ?_
  rintro _ w13 ⟨rfl, hb⟩
  refine ⟨_, rfl, ?_⟩
  have HB13 := Aside0.mk (below_step HB12.out hb)
  have Da13 := Aside0.mk (Da12.out.below hb)
  have Db13 := Aside0.mk (Db12.out.below hb)
  have Dc13 := Aside0.mk (Dc12.out.below hb)
  have Dd13 := Aside0.mk (Dd12.out.below hb)
  clear hb hHeld
  refine hK.out _ _ ⟨Da13.out.x, Db13.out.x, Dc13.out.x, Dd13.out.x⟩ (fun hHeld => ?_)
  clear hK K
  refine norm_ (a' := ?_) ?_ ?_
  rotate_left
  · show Act.put _ (some 47) _ = _
    simp only [Act.put, List.setIfInBounds_toArray, List.set_cons_zero, List.set_cons_succ, i64_w, i32_w]
    rfl
  refine one_ (i := 13) (N := some 49) #[true, true, true, true, true, true, true, true, true, true, true, true, true, true, false, false, false, false, false, false, false] rfl rfl (by kernel_rfl) (by decide) (fun K hK => ?_)
  refine goes_ Try.func17 (by kernel_rfl) rfl #[.agg #[.int .i64 y0_, .string y1_, .int .u32 y2_, .int .u64 y3_, .bool y4_, .bool y5_, .int .u64 y6_, .int .u64 y7_, .int .i64 y8_, .int .u64 y9_, .slice A6 ly.length c6, .int .u64 y11_, .int .u64 y12_, .int .i64 y13_, .int .u64 y14_, .int .u64 y15_, .int .i64 y16_, .int .i64 y17_], .agg #[.int .i64 y0_, .string y1_, .int .u32 y2_, .int .u64 y3_, .bool y4_, .bool y5_, .int .u64 y6_, .int .u64 y7_, .int .i64 y8_, .int .u64 y9_, .slice A8 ly.length c8, .int .u64 y11_, .int .u64 y12_, .int .i64 y13_, .int .u64 y14_, .int .u64 y15_, .int .i64 y16_, .int .i64 y17_]] (by rfl) rfl rfl (by (try simp only [List.map_toArray, List.map_cons, List.map_nil]); first | done | rfl) ?_
  with_reducible refine (items_true y0_ y1_ y2_ y3_ y4_ y5_ y6_ y7_ y8_ y9_ ly y11_ y12_ y13_ y14_ y15_ y16_ y17_ A6 c6 A8 c8 w13 HIS.out Dc13.out.rd Dc13.out.len Dd13.out.rd Dd13.out.len).mono ?_
  rintro _ w14 ⟨rfl, hb⟩
  refine ⟨_, rfl, ?_⟩
  have HB14 := Aside0.mk (below_step HB13.out hb)
  have Da14 := Aside0.mk (Da13.out.below hb)
  have Db14 := Aside0.mk (Db13.out.below hb)
  have Dc14 := Aside0.mk (Dc13.out.below hb)
  have Dd14 := Aside0.mk (Dd13.out.below hb)
  clear hb hHeld
  refine hK.out _ _ ⟨Da14.out.x, Db14.out.x, Dc14.out.x, Dd14.out.x⟩ (fun hHeld => ?_)
  clear hK K
  refine norm_ (a' := ?_) ?_ ?_
  rotate_left
  · show Act.put _ (some 49) _ = _
    simp only [Act.put, List.setIfInBounds_toArray, List.set_cons_zero, List.set_cons_succ, i64_w, i32_w]
    rfl
  refine pure_ (i := 14) (N := some 50) (v := ?_) (a' := ?_) #[true, true, true, true, true, true, true, true, true, true, true, true, true, true, true, false, false, false, false, false, false] rfl rfl (by kernel_rfl) (fun _ _ _ h => h) (Or.inl ⟨by rfl, ?_⟩) ?_ ?_
  rotate_left
  · intro w'
    go_simp
    with_reducible rfl
  rotate_left
  · simp only [Act.put, List.setIfInBounds_toArray, List.set_cons_zero, List.set_cons_succ, i64_w, i32_w]
    rfl
  refine pure_ (i := 15) (N := some 51) (v := ?_) (a' := ?_) #[true, true, true, true, true, true, true, true, true, true, true, true, true, true, true, true, false, false, false, false, false] rfl rfl (by kernel_rfl) (fun _ _ _ h => h) (Or.inl ⟨by rfl, ?_⟩) ?_ ?_
  rotate_left
  · intro w'
    go_simp
    with_reducible rfl
  rotate_left
  · simp only [Act.put, List.setIfInBounds_toArray, List.set_cons_zero, List.set_cons_succ, i64_w, i32_w]
    rfl
  refine pure_ (i := 16) (N := some 52) (v := ?_) (a' := ?_) #[true, true, true, true, true, true, true, true, true, true, true, true, true, true, true, true, true, false, false, false, false] rfl rfl (by kernel_rfl) (fun _ _ _ h => h) (Or.inl ⟨by rfl, ?_⟩) ?_ ?_
  rotate_left
  · intro w'
    go_simp
    with_reducible rfl
  rotate_left
  · simp only [Act.put, List.setIfInBounds_toArray, List.set_cons_zero, List.set_cons_succ, i64_w, i32_w]
    rfl
  refine pure_ (i := 17) (N := some 53) (v := ?_) (a' := ?_) #[true, true, true, true, true, true, true, true, true, true, true, true, true, true, true, true, true, true, false, false, false] rfl rfl (by kernel_rfl) (fun _ _ _ h => h) (Or.inl ⟨by rfl, ?_⟩) ?_ ?_
  rotate_left
  · intro w'
    go_simp
    with_reducible rfl
  rotate_left
  · simp only [Act.put, List.setIfInBounds_toArray, List.set_cons_zero, List.set_cons_succ, i64_w, i32_w]
    rfl
  refine pure_ (i := 18) (N := some 54) (v := ?_) (a' := ?_) #[true, true, true, true, true, true, true, true, true, true, true, true, true, true, true, true, true, true, true, false, false] rfl rfl (by kernel_rfl) (fun _ _ _ h => h) (Or.inl ⟨by rfl, ?_⟩) ?_ ?_
  rotate_left
  · intro w'
    go_simp
    with_reducible rfl
  rotate_left
  · simp only [Act.put, List.setIfInBounds_toArray, List.set_cons_zero, List.set_cons_succ, i64_w, i32_w]
    rfl
  refine pure_ (i := 19) (N := some 55) (v := ?_) (a' := ?_) #[true, true, true, true, true, true, true, true, true, true, true, true, true, true, true, true, true, true, true, true, false] rfl rfl (by kernel_rfl) (fun _ _ _ h => h) (Or.inl ⟨by rfl, ?_⟩) ?_ ?_
  rotate_left
  · intro w'
    go_simp
    with_reducible rfl
  rotate_left
  · simp only [Act.put, List.setIfInBounds_toArray, List.set_cons_zero, List.set_cons_succ, i64_w, i32_w]
    rfl
  refine pure_ (i := 20) (N := some 2) (v := ?_) (a' := ?_) #[true, true, true, true, true, true, true, true, true, true, true, true, true, true, true, true, true, true, true, true, true] rfl rfl (by kernel_rfl) (fun _ _ _ h => h) (Or.inl ⟨by rfl, ?_⟩) ?_ ?_
  rotate_left
  · intro w'
    go_simp
    with_reducible rfl
  rotate_left
  · simp only [Act.put, List.setIfInBounds_toArray, List.set_cons_zero, List.set_cons_succ, i64_w, i32_w]
    rfl
  refine done_ (by kernel_rfl) ?_
  go_wp2
  go_ret
  exact ⟨rfl, HB14.out⟩
theorem parse_len (s : ByteArray) (hs : s.size ≤ 1000000) : ∃ (p0 p1 q0 q1 q2 q3 : Int) (l : List S27) (eu : Int), log_Parse.f s = some (p0, p1, q0, q1, q2, q3, l, eu) ∧ l.length ≤ 1000 := by
  by_cases h : parseE s = 0
  · refine ⟨_, _, _, _, _, _, _, _, by rw [log_Parse.f, if_pos hs, if_pos h], ?_⟩
    rw [Pure.views_len]
    have hr : recE s 13 = 0 := by
      unfold parseE at h
      by_cases d1 : s.size < 1
      · rw [if_pos d1] at h; exact absurd h (by decide)
      rw [if_neg d1] at h
      by_cases d2 : numAt s 0 1 ≠ 1
      · rw [if_pos d2] at h; exact absurd h (by decide)
      rw [if_neg d2] at h
      by_cases d3 : s.size < 13
      · rw [if_pos d3] at h; exact absurd h (by decide)
      rw [if_neg d3] at h
      by_cases d4 : recE s 13 ≠ 0
      · rw [if_pos d4] at h; exact absurd h d4
      exact Classical.byContradiction d4
    have := (recE_zero hr).2.2.1
    omega
  · exact ⟨0, 0, 0, 0, 0, 0, [], parseE s, by rw [log_Parse.f, if_pos hs, if_neg h], by decide⟩
theorem item_len (s : ByteArray) (hs : s.size ≤ 1000000) : ∃ (y0_ : Int) (y1_ : ByteArray) (y2_ y3_ : Int) (y4_ y5_ : Bool) (y6_ y7_ y8_ y9_ : Int) (ly : List S27) (y11_ y12_ y13_ y14_ y15_ y16_ y17_ ey : Int), log_ParseItem.f s = some (y0_, y1_, y2_, y3_, y4_, y5_, y6_, y7_, y8_, y9_, ly, y11_, y12_, y13_, y14_, y15_, y16_, y17_, ey) ∧ ly.length ≤ 1000 := by
  by_cases h : itemE s = 0
  · have hf : log_ParseItem.f s = some (itemAt s) := by rw [log_ParseItem.f, if_pos hs, if_pos h]
    rw [hf, itemAt]
    obtain ⟨_, _, hk⟩ := Pure.itemE_zero h
    by_cases k1 : kindN s = 1
    · rw [if_pos k1]; exact ⟨_, _, _, _, _, _, _, _, _, _, _, _, _, _, _, _, _, _, _, rfl, by decide⟩
    rw [if_neg k1]
    by_cases k2 : kindN s = 2
    · rw [if_pos k2]
      refine ⟨_, _, _, _, _, _, _, _, _, _, _, _, _, _, _, _, _, _, _, rfl, ?_⟩
      rw [Pure.views_len]
      have hr : recE s 14 = 0 := by
        rcases hk with hk | hk | hk | hk
        · exact absurd hk k1
        · exact hk.2.2.2.1
        · exact absurd hk.1 (by omega)
        · exact absurd hk.1 (by omega)
      have := (recE_zero hr).2.2.1
      omega
    rw [if_neg k2]
    by_cases k3 : kindN s = 3
    · rw [if_pos k3]; exact ⟨_, _, _, _, _, _, _, _, _, _, _, _, _, _, _, _, _, _, _, rfl, by decide⟩
    · rw [if_neg k3]; exact ⟨_, _, _, _, _, _, _, _, _, _, _, _, _, _, _, _, _, _, _, rfl, by decide⟩
  · exact ⟨0, ⟨#[]⟩, 0, 0, false, false, 0, 0, 0, 0, [], 0, 0, 0, 0, 0, 0, 0, itemE s, by rw [log_ParseItem.f, if_pos hs, if_neg h], by decide⟩
def consortlaw19_LogParses.f (a0 : ByteArray) : Option Bool := some true
theorem consortlaw19_LogParses.calls (a0 : ByteArray) (w : World) (h : consortlaw19_LogParses.f a0 = some true) : Calls Try.prog 5 #[.string a0] w fun e w' => e = .returned (.bool true) ∧ Below w.heap.size w w' := by
  by_cases h1 : 5000 < a0.size
  · exact parses_long a0 w h1
  obtain ⟨p0, p1, q0, q1, q2, q3, l, eu, pa, hl⟩ := parse_len a0 (by omega)
  obtain ⟨y0_, y1_, y2_, y3_, y4_, y5_, y6_, y7_, y8_, y9_, ly, y11_, y12_, y13_, y14_, y15_, y16_, y17_, ey, pi, hly⟩ := item_len a0 (by omega)
  exact parses_walk a0 p0 p1 q0 q1 q2 q3 l eu y0_ y1_ y2_ y3_ y4_ y5_ y6_ y7_ y8_ y9_ ly y11_ y12_ y13_ y14_ y15_ y16_ y17_ ey w (by omega) pa pi hl hly
end Go.Proofs.Ytlkemknhmfjdpaa.P
