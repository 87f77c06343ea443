-- Written by our own program (wip/pr) over the kit's print.py, with contracts of our own.
import Derived.Test.YtgpldjckohlkfaaPx0
import Derived.Test.YtgpldjckohlkfaaPx2
import Derived.Test.YtgpldjckohlkfaaPx3
import Derived.Test.YtgpldjckohlkfaaHandC
namespace Go.Proofs.Ytgpldjckohlkfaa.P
open Go.Proofs.YtgpldjckohlkfaaOv
open Go.RowKit Go.Proofs.YtgpldjckohlkfaaW.PrintWords Go.Proofs.YtgpldjckohlkfaaW.PrintLast Go.Proofs.YtgpldjckohlkfaaW.PrintMore
attribute [local go_sem] max2_int min2_int max_two min_two max_three min_three max_four min_four   -- for this text's walks alone
set_option linter.unusedVariables false
set_option linter.unusedSimpArgs false

/-! ### consortlaw19_Item: function 10 -/
def consortlaw19_Item.f (a0_0 : Int) (a0_1 : ByteArray) (a0_2 : Int) (a0_3 : Int) (a0_4 : Bool) (a0_5 : Bool) (a0_6 : Int) (a0_7 : Int) (a0_8 : Int) (a0_9 : Int) (a0_10 : OV) (a0_11 : Int) (a0_12 : Int) (a0_13 : Int) (a0_14 : Int) (a0_15 : Int) (a0_16 : Int) (a0_17 : Int) : Option (Int × ByteArray × Int × Int × Bool × Bool × Int × Int × Int × Int × OV × Int × Int × Int × Int × Int × Int × Int) := (consortlaw19_rec.f a0_6 a0_7 a0_8 a0_9 a0_10).bind fun bt155 => (some (a0_0, a0_1, a0_2, a0_3, a0_4, a0_5, bt155.1, bt155.2.1, bt155.2.2.1, bt155.2.2.2.1, bt155.2.2.2.2, a0_11, a0_12, a0_13, a0_14, a0_15, a0_16, a0_17))
def consortlaw19_Item.T1 : Bool × List (List Nat × List Nat) := (true, [([], []), ([0], [0]), ([], []), ([2], [2]), ([], []), ([4], [4]), ([], []), ([6], [6]), ([], []), ([8], [8]), ([], []), ([10], [10]), ([], []), ([12], [12]), ([13], [13]), ([], []), ([15], [15]), ([], []), ([17], [17]), ([], []), ([19], [19]), ([], []), ([21], [21]), ([1, 3, 5, 7, 9, 11, 14, 16, 18, 20, 22], [1, 3, 5, 7, 9, 11, 14, 16, 18, 20, 22]), ([23, 14, 0, 1, 2, 3, 4, 5, 6, 7, 8, 9, 10, 11, 12, 13, 14, 15, 16, 17, 18, 19, 20, 21, 22, 23], [23])])
def consortlaw19_Item.B1 : List Nat := [0, 1, 0, 4, 0, 16, 0, 64, 0, 256, 0, 1024, 0, 4096, 12288, 0, 32768, 0, 131072, 0, 524288, 0, 2097152, 8388607, 16777215]
theorem consortlaw19_Item.tab1 : rtab .any (opsOf Try.f10 1) = consortlaw19_Item.T1 := by kernel_rfl
theorem consortlaw19_Item.bits1 : waitsOk consortlaw19_Item.T1.2 consortlaw19_Item.B1 = true := by kernel_rfl
set_option maxHeartbeats 8000000 in
set_option maxRecDepth 100000 in
theorem consortlaw19_Item.calls (a0_0 : Int) (a0_1 : ByteArray) (a0_2 : Int) (a0_3 : Int) (a0_4 : Bool) (a0_5 : Bool) (a0_6 : Int) (a0_7 : Int) (a0_8 : Int) (a0_9 : Int) (a0_10 : OV) (a0_11 : Int) (a0_12 : Int) (a0_13 : Int) (a0_14 : Int) (a0_15 : Int) (a0_16 : Int) (a0_17 : Int) (r1 : Int) (r2 : ByteArray) (r3 : Int) (r4 : Int) (r5 : Bool) (r6 : Bool) (r7 : Int) (r8 : Int) (r9 : Int) (r10 : Int) (r11 : OV) (r12 : Int) (r13 : Int) (r14 : Int) (r15 : Int) (r16 : Int) (r17 : Int) (r18 : Int) (w : World) (h : consortlaw19_Item.f a0_0 a0_1 a0_2 a0_3 a0_4 a0_5 a0_6 a0_7 a0_8 a0_9 a0_10 a0_11 a0_12 a0_13 a0_14 a0_15 a0_16 a0_17 = some (r1, r2, r3, r4, r5, r6, r7, r8, r9, r10, r11, r12, r13, r14, r15, r16, r17, r18)) :
    Calls Try.prog 10 #[.agg #[.int .i64 a0_0, .string a0_1, .int .u32 a0_2, .int .u64 a0_3, .bool a0_4, .bool a0_5, .int .u64 a0_6, .int .u64 a0_7, .int .i64 a0_8, .int .u64 a0_9, .slice a0_10.A a0_10.n a0_10.c, .int .u64 a0_11, .int .u64 a0_12, .int .i64 a0_13, .int .u64 a0_14, .int .u64 a0_15, .int .i64 a0_16, .int .i64 a0_17]] w fun e w' => e = .returned (.agg #[.int .i64 r1, .string r2, .int .u32 r3, .int .u64 r4, .bool r5, .bool r6, .int .u64 r7, .int .u64 r8, .int .i64 r9, .int .u64 r10, .slice r11.A r11.n r11.c, .int .u64 r12, .int .u64 r13, .int .i64 r14, .int .u64 r15, .int .u64 r16, .int .i64 r17, .int .i64 r18]) ∧ Below w.heap.size w w' := by
  have hu42 := Try.underlying42
  have hu38 := Try.underlying38
  have hu40 := Try.underlying40
  have hu33 := Try.underlying33
  have HB := Aside0.mk (Below.refl w.heap.size w)
  have H : ((consortlaw19_rec.f a0_6 a0_7 a0_8 a0_9 a0_10).bind fun bt155 => (some (a0_0, a0_1, a0_2, a0_3, a0_4, a0_5, bt155.1, bt155.2.1, bt155.2.2.1, bt155.2.2.2.1, bt155.2.2.2.2, a0_11, a0_12, a0_13, a0_14, a0_15, a0_16, a0_17))) = some (r1, r2, r3, r4, r5, r6, r7, r8, r9, r10, r11, r12, r13, r14, r15, r16, r17, r18) := h
  clear h
  replace H := Option.bind_eq_some_iff.mp H
  obtain ⟨⟨t155, t156, t157, t158, t159⟩, A20, H⟩ := H
  replace H : (some (a0_0, a0_1, a0_2, a0_3, a0_4, a0_5, t155, t156, t157, t158, t159, a0_11, a0_12, a0_13, a0_14, a0_15, a0_16, a0_17)) = some (r1, r2, r3, r4, r5, r6, r7, r8, r9, r10, r11, r12, r13, r14, r15, r16, r17, r18) := H
  have A2 := Aside0.mk A20
  clear A20
  simp only [Option.some.injEq, Prod.mk.injEq] at H
  obtain ⟨rfl, rfl, rfl, rfl, rfl, rfl, rfl, rfl, rfl, rfl, rfl, rfl, rfl, rfl, rfl, rfl, rfl, rfl⟩ := H
  go_enter Try.func10, Try.ntmps10
  try go_wp2_with (first | ((with_reducible refine gate_dst (N := 1) rfl ?_); refine box_event ?hg (N := 1) ?hd (cs := #[.int .i64 a0_0, .string a0_1, .int .u32 a0_2, .int .u64 a0_3, .bool a0_4, .bool a0_5, .int .u64 a0_6, .int .u64 a0_7, .int .i64 a0_8, .int .u64 a0_9, .slice a0_10.A a0_10.n a0_10.c, .int .u64 a0_11, .int .u64 a0_12, .int .i64 a0_13, .int .u64 a0_14, .int .u64 a0_15, .int .i64 a0_16, .int .i64 a0_17]) (t := 42) ?hr ?_; (case hd => rfl); (case hg => rfl); (case hr => first | (go_simp; done) | (go_simp; rfl)); intro gb153 hg w3 hbox hb; have n0_ := Aside0.mk (below_step (by repeat (first | (with_reducible first | exact HB.out | apply below_alloc | apply pw_below_drewN | apply below_drew1) | exact HB.out)) hb); have n1_ := Aside0.mk (hbox); have n2_ := Aside0.mk ((by rw [hg]; exact (below_size (by repeat (first | (with_reducible first | exact HB.out | apply below_alloc | apply pw_below_drewN | apply below_drew1) | exact HB.out))) : w.heap.size ≤ gb153)); have n3_ := Aside0.mk ((by rw [hg]; exact (below_size (by repeat (first | (with_reducible first | exact HB.out | apply below_alloc | apply pw_below_drewN | apply below_drew1) | exact HB.out))) : w.heap.size ≤ gb153)); clear HB; have HB := n0_; have BK153 := n1_; have GW153 := n2_; have GE153 := n3_; clear n0_ n1_ n2_ n3_; clear hb hbox hg) | ((with_reducible refine gate_dst (N := 2) rfl ?_); refine box_event ?hg (N := 2) ?hd (cs := #[.int .i64 0, .string (⟨#[]⟩ : ByteArray), .int .u32 0, .int .u64 0, .bool false, .bool false, .int .u64 0, .int .u64 0, .int .i64 0, .int .u64 0, .slice OV.nil.A OV.nil.n OV.nil.c, .int .u64 0, .int .u64 0, .int .i64 0, .int .u64 0, .int .u64 0, .int .i64 0, .int .i64 0]) (t := 38) ?hr ?_; (case hd => rfl); (case hg => rfl); (case hr => first | (go_simp; done) | (go_simp; rfl)); intro gb154 hg w4 hbox hb; have n0_ := Aside0.mk (blk_below (g := gb153) (o := .cells #[.int .i64 a0_0, .string a0_1, .int .u32 a0_2, .int .u64 a0_3, .bool a0_4, .bool a0_5, .int .u64 a0_6, .int .u64 a0_7, .int .i64 a0_8, .int .u64 a0_9, .slice a0_10.A a0_10.n a0_10.c, .int .u64 a0_11, .int .u64 a0_12, .int .i64 a0_13, .int .u64 a0_14, .int .u64 a0_15, .int .i64 a0_16, .int .i64 a0_17] 42 (0, 0)) (by (with_reducible repeat (first | refine blk_drewN ?_ _ | refine blk_drew ?_ | refine blk_alloc ?_ _)); exact BK153.out) hb); have n1_ := Aside0.mk (below_step (by repeat (first | (with_reducible first | exact HB.out | apply below_alloc | apply pw_below_drewN | apply below_drew1 | refine below_set ?_ GE153.out) | exact HB.out)) hb); have n2_ := Aside0.mk (hbox); have n3_ := Aside0.mk ((by rw [hg]; exact (below_size (by repeat (first | (with_reducible first | exact HB.out | apply below_alloc | apply pw_below_drewN | apply below_drew1 | refine below_set ?_ GE153.out) | exact HB.out))) : w.heap.size ≤ gb154)); have n4_ := Aside0.mk ((by rw [hg]; exact (below_size (by repeat (first | (with_reducible first | exact HB.out | apply below_alloc | apply pw_below_drewN | apply below_drew1 | refine below_set ?_ GE153.out) | exact HB.out))) : w.heap.size ≤ gb154)); have n5_ := Aside0.mk ((by rw [hg]; exact Nat.ne_of_lt (blk_lt (g := gb153) (o := .cells #[.int .i64 a0_0, .string a0_1, .int .u32 a0_2, .int .u64 a0_3, .bool a0_4, .bool a0_5, .int .u64 a0_6, .int .u64 a0_7, .int .i64 a0_8, .int .u64 a0_9, .slice a0_10.A a0_10.n a0_10.c, .int .u64 a0_11, .int .u64 a0_12, .int .i64 a0_13, .int .u64 a0_14, .int .u64 a0_15, .int .i64 a0_16, .int .i64 a0_17] 42 (0, 0)) (by (with_reducible repeat (first | refine blk_drewN ?_ _ | refine blk_drew ?_ | refine blk_alloc ?_ _)); exact BK153.out)) : gb153 ≠ gb154)); have n6_ := Aside0.mk ((by rw [hg]; exact Nat.ne_of_gt (blk_lt (g := gb153) (o := .cells #[.int .i64 a0_0, .string a0_1, .int .u32 a0_2, .int .u64 a0_3, .bool a0_4, .bool a0_5, .int .u64 a0_6, .int .u64 a0_7, .int .i64 a0_8, .int .u64 a0_9, .slice a0_10.A a0_10.n a0_10.c, .int .u64 a0_11, .int .u64 a0_12, .int .i64 a0_13, .int .u64 a0_14, .int .u64 a0_15, .int .i64 a0_16, .int .i64 a0_17] 42 (0, 0)) (by (with_reducible repeat (first | refine blk_drewN ?_ _ | refine blk_drew ?_ | refine blk_alloc ?_ _)); exact BK153.out)) : gb154 ≠ gb153)); clear BK153; clear HB; have BK153 := n0_; have HB := n1_; have BK154 := n2_; have GW154 := n3_; have GE154 := n4_; have NB153_154 := n5_; have NB154_153 := n6_; clear n0_ n1_ n2_ n3_ n4_ n5_ n6_; clear hb hbox hg))
  have n0_ := Aside0.mk (blk_drew BK153.out)
  have n1_ := Aside0.mk (blk_drew BK154.out)
  have n2_ := Aside0.mk (below_drew1 HB.out)
  clear BK153
  clear BK154
  clear HB
  have BK153 := n0_
  have BK154 := n1_
  have HB := n2_
  clear n0_ n1_ n2_
  refine start_ (n := 25) (S := fun w' => w'.cell? ⟨gb153, 0, none⟩ = some (.int .i64 a0_0) ∧ w'.cell? ⟨gb153, 1, none⟩ = some (.string a0_1) ∧ w'.cell? ⟨gb153, 2, none⟩ = some (.int .u32 a0_2) ∧ w'.cell? ⟨gb153, 3, none⟩ = some (.int .u64 a0_3) ∧ w'.cell? ⟨gb153, 4, none⟩ = some (.bool a0_4) ∧ w'.cell? ⟨gb153, 5, none⟩ = some (.bool a0_5) ∧ w'.cell? ⟨gb153, 6, none⟩ = some (.int .u64 a0_6) ∧ w'.cell? ⟨gb153, 7, none⟩ = some (.int .u64 a0_7) ∧ w'.cell? ⟨gb153, 8, none⟩ = some (.int .i64 a0_8) ∧ w'.cell? ⟨gb153, 9, none⟩ = some (.int .u64 a0_9) ∧ w'.cell? ⟨gb153, 10, none⟩ = some (.slice a0_10.A a0_10.n a0_10.c) ∧ w'.cell? ⟨gb153, 11, none⟩ = some (.int .u64 a0_11) ∧ w'.cell? ⟨gb153, 12, none⟩ = some (.int .u64 a0_12) ∧ w'.cell? ⟨gb153, 13, none⟩ = some (.int .i64 a0_13) ∧ w'.cell? ⟨gb153, 14, none⟩ = some (.int .u64 a0_14) ∧ w'.cell? ⟨gb153, 15, none⟩ = some (.int .u64 a0_15) ∧ w'.cell? ⟨gb153, 16, none⟩ = some (.int .i64 a0_16) ∧ w'.cell? ⟨gb153, 17, none⟩ = some (.int .i64 a0_17)) (ds := []) #[false, false, false, false, false, false, false, false, false, false, false, false, false, false, false, false, false, false, false, false, false, false, false, false, false] (by kernel_rfl) rfl rfl ⟨(blk_cell BK153.out 0).trans rfl, (blk_cell BK153.out 1).trans rfl, (blk_cell BK153.out 2).trans rfl, (blk_cell BK153.out 3).trans rfl, (blk_cell BK153.out 4).trans rfl, (blk_cell BK153.out 5).trans rfl, (blk_cell BK153.out 6).trans rfl, (blk_cell BK153.out 7).trans rfl, (blk_cell BK153.out 8).trans rfl, (blk_cell BK153.out 9).trans rfl, (blk_cell BK153.out 10).trans rfl, (blk_cell BK153.out 11).trans rfl, (blk_cell BK153.out 12).trans rfl, (blk_cell BK153.out 13).trans rfl, (blk_cell BK153.out 14).trans rfl, (blk_cell BK153.out 15).trans rfl, (blk_cell BK153.out 16).trans rfl, (blk_cell BK153.out 17).trans rfl⟩ (fun hHeld => ?_); refine with_tabW consortlaw19_Item.tab1 consortlaw19_Item.bits1 (fun HT_ HW_ => ?_)
  generalize w4.drew = w5 at BK153 BK154 HB hHeld ⊢
  refine pure_ (i := 0) (N := some 3) (v := ?_) (a' := ?_) #[true, false, false, false, false, false, false, false, false, false, false, false, false, false, false, false, false, false, false, false, false, false, false, false, false] rfl rfl (any_of HT_.out (by kernel_rfl)) (fun _ _ _ h => h) (Or.inl ⟨by rfl, ?_⟩) ?_ ?_
  rotate_left
  · intro w'
    go_simp
    with_reducible rfl
  rotate_left
  · simp only [Act.put, List.setIfInBounds_toArray, List.set_cons_zero, List.set_cons_succ, i64_w, i32_w]
    rfl
  refine pure_ (i := 2) (N := some 5) (v := ?_) (a' := ?_) #[true, false, true, false, false, false, false, false, false, false, false, false, false, false, false, false, false, false, false, false, false, false, false, false, false] rfl rfl (any_of HT_.out (by kernel_rfl)) (fun _ _ _ h => h) (Or.inl ⟨by rfl, ?_⟩) ?_ ?_
  rotate_left
  · intro w'
    go_simp
    with_reducible rfl
  rotate_left
  · simp only [Act.put, List.setIfInBounds_toArray, List.set_cons_zero, List.set_cons_succ, i64_w, i32_w]
    rfl
  refine pure_ (i := 4) (N := some 7) (v := ?_) (a' := ?_) #[true, false, true, false, true, false, false, false, false, false, false, false, false, false, false, false, false, false, false, false, false, false, false, false, false] rfl rfl (any_of HT_.out (by kernel_rfl)) (fun _ _ _ h => h) (Or.inl ⟨by rfl, ?_⟩) ?_ ?_
  rotate_left
  · intro w'
    go_simp
    with_reducible rfl
  rotate_left
  · simp only [Act.put, List.setIfInBounds_toArray, List.set_cons_zero, List.set_cons_succ, i64_w, i32_w]
    rfl
  refine pure_ (i := 6) (N := some 9) (v := ?_) (a' := ?_) #[true, false, true, false, true, false, true, false, false, false, false, false, false, false, false, false, false, false, false, false, false, false, false, false, false] rfl rfl (any_of HT_.out (by kernel_rfl)) (fun _ _ _ h => h) (Or.inl ⟨by rfl, ?_⟩) ?_ ?_
  rotate_left
  · intro w'
    go_simp
    with_reducible rfl
  rotate_left
  · simp only [Act.put, List.setIfInBounds_toArray, List.set_cons_zero, List.set_cons_succ, i64_w, i32_w]
    rfl
  refine pure_ (i := 8) (N := some 11) (v := ?_) (a' := ?_) #[true, false, true, false, true, false, true, false, true, false, false, false, false, false, false, false, false, false, false, false, false, false, false, false, false] rfl rfl (any_of HT_.out (by kernel_rfl)) (fun _ _ _ h => h) (Or.inl ⟨by rfl, ?_⟩) ?_ ?_
  rotate_left
  · intro w'
    go_simp
    with_reducible rfl
  rotate_left
  · simp only [Act.put, List.setIfInBounds_toArray, List.set_cons_zero, List.set_cons_succ, i64_w, i32_w]
    rfl
  refine pure_ (i := 10) (N := some 13) (v := ?_) (a' := ?_) #[true, false, true, false, true, false, true, false, true, false, true, false, false, false, false, false, false, false, false, false, false, false, false, false, false] rfl rfl (any_of HT_.out (by kernel_rfl)) (fun _ _ _ h => h) (Or.inl ⟨by rfl, ?_⟩) ?_ ?_
  rotate_left
  · intro w'
    go_simp
    with_reducible rfl
  rotate_left
  · simp only [Act.put, List.setIfInBounds_toArray, List.set_cons_zero, List.set_cons_succ, i64_w, i32_w]
    rfl
  refine pure_ (i := 12) (N := some 15) (v := ?_) (a' := ?_) #[true, false, true, false, true, false, true, false, true, false, true, false, true, false, false, false, false, false, false, false, false, false, false, false, false] rfl rfl (any_of HT_.out (by kernel_rfl)) (fun _ _ _ h => h) (Or.inl ⟨by rfl, ?_⟩) ?_ ?_
  rotate_left
  · intro w'
    go_simp
    with_reducible rfl
  rotate_left
  · simp only [Act.put, List.setIfInBounds_toArray, List.set_cons_zero, List.set_cons_succ, i64_w, i32_w]
    rfl
  refine pure_ (i := 15) (N := some 18) (v := ?_) (a' := ?_) #[true, false, true, false, true, false, true, false, true, false, true, false, true, false, false, true, false, false, false, false, false, false, false, false, false] rfl rfl (any_of HT_.out (by kernel_rfl)) (fun _ _ _ h => h) (Or.inl ⟨by rfl, ?_⟩) ?_ ?_
  rotate_left
  · intro w'
    go_simp
    with_reducible rfl
  rotate_left
  · simp only [Act.put, List.setIfInBounds_toArray, List.set_cons_zero, List.set_cons_succ, i64_w, i32_w]
    rfl
  refine pure_ (i := 17) (N := some 20) (v := ?_) (a' := ?_) #[true, false, true, false, true, false, true, false, true, false, true, false, true, false, false, true, false, true, false, false, false, false, false, false, false] rfl rfl (any_of HT_.out (by kernel_rfl)) (fun _ _ _ h => h) (Or.inl ⟨by rfl, ?_⟩) ?_ ?_
  rotate_left
  · intro w'
    go_simp
    with_reducible rfl
  rotate_left
  · simp only [Act.put, List.setIfInBounds_toArray, List.set_cons_zero, List.set_cons_succ, i64_w, i32_w]
    rfl
  refine pure_ (i := 19) (N := some 22) (v := ?_) (a' := ?_) #[true, false, true, false, true, false, true, false, true, false, true, false, true, false, false, true, false, true, false, true, false, false, false, false, false] rfl rfl (any_of HT_.out (by kernel_rfl)) (fun _ _ _ h => h) (Or.inl ⟨by rfl, ?_⟩) ?_ ?_
  rotate_left
  · intro w'
    go_simp
    with_reducible rfl
  rotate_left
  · simp only [Act.put, List.setIfInBounds_toArray, List.set_cons_zero, List.set_cons_succ, i64_w, i32_w]
    rfl
  refine pure_ (i := 21) (N := some 24) (v := ?_) (a' := ?_) #[true, false, true, false, true, false, true, false, true, false, true, false, true, false, false, true, false, true, false, true, false, true, false, false, false] rfl rfl (any_of HT_.out (by kernel_rfl)) (fun _ _ _ h => h) (Or.inl ⟨by rfl, ?_⟩) ?_ ?_
  rotate_left
  · intro w'
    go_simp
    with_reducible rfl
  rotate_left
  · simp only [Act.put, List.setIfInBounds_toArray, List.set_cons_zero, List.set_cons_succ, i64_w, i32_w]
    rfl
  refine take_ (i := 1) (N := some 4) (v := ?_) (a' := ?_) #[true, true, true, false, true, false, true, false, true, false, true, false, true, false, false, true, false, true, false, true, false, true, false, false, false] rfl rfl (take_ofW HT_.out HW_.out (by kernel_rfl)) (fun _ _ _ h => h) (Or.inl ⟨by rfl, ?_⟩) hHeld ?_ ?_
  rotate_left
  · rintro w' ⟨s0, s1, s2, s3, s4, s5, s6, s7, s8, s9, s10, s11, s12, s13, s14, s15, s16, s17⟩
    go_simp
    with_reducible rfl
  rotate_left
  · simp only [Act.put, List.setIfInBounds_toArray, List.set_cons_zero, List.set_cons_succ, i64_w, i32_w]
    rfl
  refine take_ (i := 3) (N := some 6) (v := ?_) (a' := ?_) #[true, true, true, true, true, false, true, false, true, false, true, false, true, false, false, true, false, true, false, true, false, true, false, false, false] rfl rfl (take_ofW HT_.out HW_.out (by kernel_rfl)) (fun _ _ _ h => h) (Or.inl ⟨by rfl, ?_⟩) hHeld ?_ ?_
  rotate_left
  · rintro w' ⟨s0, s1, s2, s3, s4, s5, s6, s7, s8, s9, s10, s11, s12, s13, s14, s15, s16, s17⟩
    go_simp
    with_reducible rfl
  rotate_left
  · simp only [Act.put, List.setIfInBounds_toArray, List.set_cons_zero, List.set_cons_succ, i64_w, i32_w]
    rfl
  refine take_ (i := 5) (N := some 8) (v := ?_) (a' := ?_) #[true, true, true, true, true, true, true, false, true, false, true, false, true, false, false, true, false, true, false, true, false, true, false, false, false] rfl rfl (take_ofW HT_.out HW_.out (by kernel_rfl)) (fun _ _ _ h => h) (Or.inl ⟨by rfl, ?_⟩) hHeld ?_ ?_
  rotate_left
  · rintro w' ⟨s0, s1, s2, s3, s4, s5, s6, s7, s8, s9, s10, s11, s12, s13, s14, s15, s16, s17⟩
    go_simp
    with_reducible rfl
  rotate_left
  · simp only [Act.put, List.setIfInBounds_toArray, List.set_cons_zero, List.set_cons_succ, i64_w, i32_w]
    rfl
  refine take_ (i := 7) (N := some 10) (v := ?_) (a' := ?_) #[true, true, true, true, true, true, true, true, true, false, true, false, true, false, false, true, false, true, false, true, false, true, false, false, false] rfl rfl (take_ofW HT_.out HW_.out (by kernel_rfl)) (fun _ _ _ h => h) (Or.inl ⟨by rfl, ?_⟩) hHeld ?_ ?_
  rotate_left
  · rintro w' ⟨s0, s1, s2, s3, s4, s5, s6, s7, s8, s9, s10, s11, s12, s13, s14, s15, s16, s17⟩
    go_simp
    with_reducible rfl
  rotate_left
  · simp only [Act.put, List.setIfInBounds_toArray, List.set_cons_zero, List.set_cons_succ, i64_w, i32_w]
    rfl
  refine take_ (i := 9) (N := some 12) (v := ?_) (a' := ?_) #[true, true, true, true, true, true, true, true, true, true, true, false, true, false, false, true, false, true, false, true, false, true, false, false, false] rfl rfl (take_ofW HT_.out HW_.out (by kernel_rfl)) (fun _ _ _ h => h) (Or.inl ⟨by rfl, ?_⟩) hHeld ?_ ?_
  rotate_left
  · rintro w' ⟨s0, s1, s2, s3, s4, s5, s6, s7, s8, s9, s10, s11, s12, s13, s14, s15, s16, s17⟩
    go_simp
    with_reducible rfl
  rotate_left
  · simp only [Act.put, List.setIfInBounds_toArray, List.set_cons_zero, List.set_cons_succ, i64_w, i32_w]
    rfl
  refine take_ (i := 11) (N := some 14) (v := ?_) (a' := ?_) #[true, true, true, true, true, true, true, true, true, true, true, true, true, false, false, true, false, true, false, true, false, true, false, false, false] rfl rfl (take_ofW HT_.out HW_.out (by kernel_rfl)) (fun _ _ _ h => h) (Or.inl ⟨by rfl, ?_⟩) hHeld ?_ ?_
  rotate_left
  · rintro w' ⟨s0, s1, s2, s3, s4, s5, s6, s7, s8, s9, s10, s11, s12, s13, s14, s15, s16, s17⟩
    go_simp
    with_reducible rfl
  rotate_left
  · simp only [Act.put, List.setIfInBounds_toArray, List.set_cons_zero, List.set_cons_succ, i64_w, i32_w]
    rfl
  refine take_ (i := 13) (N := some 16) (v := ?_) (a' := ?_) #[true, true, true, true, true, true, true, true, true, true, true, true, true, true, false, true, false, true, false, true, false, true, false, false, false] rfl rfl (take_ofW HT_.out HW_.out (by kernel_rfl)) (fun _ _ _ h => h) (Or.inl ⟨by rfl, ?_⟩) hHeld ?_ ?_
  rotate_left
  · rintro w' ⟨s0, s1, s2, s3, s4, s5, s6, s7, s8, s9, s10, s11, s12, s13, s14, s15, s16, s17⟩
    go_simp
    with_reducible rfl
  rotate_left
  · simp only [Act.put, List.setIfInBounds_toArray, List.set_cons_zero, List.set_cons_succ, i64_w, i32_w]
    rfl
  refine take_ (i := 16) (N := some 19) (v := ?_) (a' := ?_) #[true, true, true, true, true, true, true, true, true, true, true, true, true, true, false, true, true, true, false, true, false, true, false, false, false] rfl rfl (take_ofW HT_.out HW_.out (by kernel_rfl)) (fun _ _ _ h => h) (Or.inl ⟨by rfl, ?_⟩) hHeld ?_ ?_
  rotate_left
  · rintro w' ⟨s0, s1, s2, s3, s4, s5, s6, s7, s8, s9, s10, s11, s12, s13, s14, s15, s16, s17⟩
    go_simp
    with_reducible rfl
  rotate_left
  · simp only [Act.put, List.setIfInBounds_toArray, List.set_cons_zero, List.set_cons_succ, i64_w, i32_w]
    rfl
  refine take_ (i := 18) (N := some 21) (v := ?_) (a' := ?_) #[true, true, true, true, true, true, true, true, true, true, true, true, true, true, false, true, true, true, true, true, false, true, false, false, false] rfl rfl (take_ofW HT_.out HW_.out (by kernel_rfl)) (fun _ _ _ h => h) (Or.inl ⟨by rfl, ?_⟩) hHeld ?_ ?_
  rotate_left
  · rintro w' ⟨s0, s1, s2, s3, s4, s5, s6, s7, s8, s9, s10, s11, s12, s13, s14, s15, s16, s17⟩
    go_simp
    with_reducible rfl
  rotate_left
  · simp only [Act.put, List.setIfInBounds_toArray, List.set_cons_zero, List.set_cons_succ, i64_w, i32_w]
    rfl
  refine take_ (i := 20) (N := some 23) (v := ?_) (a' := ?_) #[true, true, true, true, true, true, true, true, true, true, true, true, true, true, false, true, true, true, true, true, true, true, false, false, false] rfl rfl (take_ofW HT_.out HW_.out (by kernel_rfl)) (fun _ _ _ h => h) (Or.inl ⟨by rfl, ?_⟩) hHeld ?_ ?_
  rotate_left
  · rintro w' ⟨s0, s1, s2, s3, s4, s5, s6, s7, s8, s9, s10, s11, s12, s13, s14, s15, s16, s17⟩
    go_simp
    with_reducible rfl
  rotate_left
  · simp only [Act.put, List.setIfInBounds_toArray, List.set_cons_zero, List.set_cons_succ, i64_w, i32_w]
    rfl
  refine take_ (i := 22) (N := some 25) (v := ?_) (a' := ?_) #[true, true, true, true, true, true, true, true, true, true, true, true, true, true, false, true, true, true, true, true, true, true, true, false, false] rfl rfl (take_ofW HT_.out HW_.out (by kernel_rfl)) (fun _ _ _ h => h) (Or.inl ⟨by rfl, ?_⟩) hHeld ?_ ?_
  rotate_left
  · rintro w' ⟨s0, s1, s2, s3, s4, s5, s6, s7, s8, s9, s10, s11, s12, s13, s14, s15, s16, s17⟩
    go_simp
    with_reducible rfl
  rotate_left
  · simp only [Act.put, List.setIfInBounds_toArray, List.set_cons_zero, List.set_cons_succ, i64_w, i32_w]
    rfl
  refine one_ (i := 14) (N := some 17) #[true, true, true, true, true, true, true, true, true, true, true, true, true, true, true, true, true, true, true, true, true, true, true, false, false] rfl rfl (one_of HT_.out (by kernel_rfl)) (by decide) (fun K hK => ?_)
  refine goes_ Try.func18 (by kernel_rfl) rfl #[.agg #[.int .u64 a0_6, .int .u64 a0_7, .int .i64 a0_8, .int .u64 a0_9, .slice a0_10.A a0_10.n a0_10.c]] (by rfl) rfl rfl (by (try simp only [List.map_toArray, List.map_cons, List.map_nil]); first | done | rfl | (simp only [List.length_drop, List.length_take]; rfl)) ?_
  with_reducible refine (consortlaw19_rec.calls a0_6 a0_7 a0_8 a0_9 a0_10 t155 t156 t157 t158 t159 _ A2.out).mono ?_
  rintro e w6 ⟨rfl, hb⟩
  refine ⟨_, rfl, ?_⟩
  have n0_ := Aside0.mk (blk_below (g := gb153) (o := .cells #[.int .i64 a0_0, .string a0_1, .int .u32 a0_2, .int .u64 a0_3, .bool a0_4, .bool a0_5, .int .u64 a0_6, .int .u64 a0_7, .int .i64 a0_8, .int .u64 a0_9, .slice a0_10.A a0_10.n a0_10.c, .int .u64 a0_11, .int .u64 a0_12, .int .i64 a0_13, .int .u64 a0_14, .int .u64 a0_15, .int .i64 a0_16, .int .i64 a0_17] 42 (0, 0)) (by (with_reducible repeat (first | refine blk_drewN ?_ _ | refine blk_drew ?_ | refine blk_alloc ?_ _)); exact BK153.out) hb)
  have n1_ := Aside0.mk (blk_below (g := gb154) (o := .cells #[.int .i64 0, .string (⟨#[]⟩ : ByteArray), .int .u32 0, .int .u64 0, .bool false, .bool false, .int .u64 0, .int .u64 0, .int .i64 0, .int .u64 0, .slice OV.nil.A OV.nil.n OV.nil.c, .int .u64 0, .int .u64 0, .int .i64 0, .int .u64 0, .int .u64 0, .int .i64 0, .int .i64 0] 38 (0, 0)) (by (with_reducible repeat (first | refine blk_drewN ?_ _ | refine blk_drew ?_ | refine blk_alloc ?_ _)); exact BK154.out) hb)
  have n2_ := Aside0.mk (below_step (by repeat (first | (with_reducible first | exact HB.out | apply below_alloc | apply pw_below_drewN | apply below_drew1 | refine below_set ?_ GE153.out | refine below_set ?_ GE154.out) | exact HB.out)) hb)
  clear BK153
  clear BK154
  clear HB
  have BK153 := n0_
  have BK154 := n1_
  have HB := n2_
  clear n0_ n1_ n2_
  (try clear hb)
  (try clear hb2)
  (try clear hk)
  (try clear hi)
  refine hK.out _ _ ⟨(blk_cell BK153.out 0).trans rfl, (blk_cell BK153.out 1).trans rfl, (blk_cell BK153.out 2).trans rfl, (blk_cell BK153.out 3).trans rfl, (blk_cell BK153.out 4).trans rfl, (blk_cell BK153.out 5).trans rfl, (blk_cell BK153.out 6).trans rfl, (blk_cell BK153.out 7).trans rfl, (blk_cell BK153.out 8).trans rfl, (blk_cell BK153.out 9).trans rfl, (blk_cell BK153.out 10).trans rfl, (blk_cell BK153.out 11).trans rfl, (blk_cell BK153.out 12).trans rfl, (blk_cell BK153.out 13).trans rfl, (blk_cell BK153.out 14).trans rfl, (blk_cell BK153.out 15).trans rfl, (blk_cell BK153.out 16).trans rfl, (blk_cell BK153.out 17).trans rfl⟩ (fun hHeld => ?_)
  clear hK K
  refine norm_ (a' := ?_) ?_ ?_
  rotate_left
  · show Act.put _ (some 17) _ = _
    simp only [Act.put, List.setIfInBounds_toArray, List.set_cons_zero, List.set_cons_succ, i64_w, i32_w]
    rfl
  refine pure_ (i := 23) (N := some 26) (v := ?_) (a' := ?_) #[true, true, true, true, true, true, true, true, true, true, true, true, true, true, true, true, true, true, true, true, true, true, true, true, false] rfl rfl (any_of HT_.out (by kernel_rfl)) (fun _ _ _ h => h) (Or.inl ⟨by rfl, ?_⟩) ?_ ?_
  rotate_left
  · intro w'
    go_simp
    with_reducible rfl
  rotate_left
  · simp only [Act.put, List.setIfInBounds_toArray, List.set_cons_zero, List.set_cons_succ, i64_w, i32_w]
    rfl
  refine one_ (i := 24) (N := none) #[true, true, true, true, true, true, true, true, true, true, true, true, true, true, true, true, true, true, true, true, true, true, true, true, true] rfl rfl (one_of HT_.out (by kernel_rfl)) (by decide) (fun K hK => ?_)
  have hs7 : w6.cell? ⟨gb154, 0, none⟩ = some (.int .i64 0) := (blk_cell BK154.out 0).trans rfl
  have hfs7 := blk_frozen BK154.out 0
  have hns7_0 := NB153_154.out
  have hms7_0 := NB154_153.out
  have hs8 : w6.cell? ⟨gb154, 1, none⟩ = some (.string (⟨#[]⟩ : ByteArray)) := (blk_cell BK154.out 1).trans rfl
  have hfs8 := blk_frozen BK154.out 1
  have hns8_0 := NB153_154.out
  have hms8_0 := NB154_153.out
  have hs9 : w6.cell? ⟨gb154, 2, none⟩ = some (.int .u32 0) := (blk_cell BK154.out 2).trans rfl
  have hfs9 := blk_frozen BK154.out 2
  have hns9_0 := NB153_154.out
  have hms9_0 := NB154_153.out
  have hs10 : w6.cell? ⟨gb154, 3, none⟩ = some (.int .u64 0) := (blk_cell BK154.out 3).trans rfl
  have hfs10 := blk_frozen BK154.out 3
  have hns10_0 := NB153_154.out
  have hms10_0 := NB154_153.out
  have hs11 : w6.cell? ⟨gb154, 4, none⟩ = some (.bool false) := (blk_cell BK154.out 4).trans rfl
  have hfs11 := blk_frozen BK154.out 4
  have hns11_0 := NB153_154.out
  have hms11_0 := NB154_153.out
  have hs12 : w6.cell? ⟨gb154, 5, none⟩ = some (.bool false) := (blk_cell BK154.out 5).trans rfl
  have hfs12 := blk_frozen BK154.out 5
  have hns12_0 := NB153_154.out
  have hms12_0 := NB154_153.out
  have hs13 : w6.cell? ⟨gb154, 6, none⟩ = some (.int .u64 0) := (blk_cell BK154.out 6).trans rfl
  have hfs13 := blk_frozen BK154.out 6
  have hns13_0 := NB153_154.out
  have hms13_0 := NB154_153.out
  have hs14 : w6.cell? ⟨gb154, 7, none⟩ = some (.int .u64 0) := (blk_cell BK154.out 7).trans rfl
  have hfs14 := blk_frozen BK154.out 7
  have hns14_0 := NB153_154.out
  have hms14_0 := NB154_153.out
  have hs15 : w6.cell? ⟨gb154, 8, none⟩ = some (.int .i64 0) := (blk_cell BK154.out 8).trans rfl
  have hfs15 := blk_frozen BK154.out 8
  have hns15_0 := NB153_154.out
  have hms15_0 := NB154_153.out
  have hs16 : w6.cell? ⟨gb154, 9, none⟩ = some (.int .u64 0) := (blk_cell BK154.out 9).trans rfl
  have hfs16 := blk_frozen BK154.out 9
  have hns16_0 := NB153_154.out
  have hms16_0 := NB154_153.out
  have hs17 : w6.cell? ⟨gb154, 10, none⟩ = some (.slice OV.nil.A OV.nil.n OV.nil.c) := (blk_cell BK154.out 10).trans rfl
  have hfs17 := blk_frozen BK154.out 10
  have hns17_0 := NB153_154.out
  have hms17_0 := NB154_153.out
  have hs18 : w6.cell? ⟨gb154, 11, none⟩ = some (.int .u64 0) := (blk_cell BK154.out 11).trans rfl
  have hfs18 := blk_frozen BK154.out 11
  have hns18_0 := NB153_154.out
  have hms18_0 := NB154_153.out
  have hs19 : w6.cell? ⟨gb154, 12, none⟩ = some (.int .u64 0) := (blk_cell BK154.out 12).trans rfl
  have hfs19 := blk_frozen BK154.out 12
  have hns19_0 := NB153_154.out
  have hms19_0 := NB154_153.out
  have hs20 : w6.cell? ⟨gb154, 13, none⟩ = some (.int .i64 0) := (blk_cell BK154.out 13).trans rfl
  have hfs20 := blk_frozen BK154.out 13
  have hns20_0 := NB153_154.out
  have hms20_0 := NB154_153.out
  have hs21 : w6.cell? ⟨gb154, 14, none⟩ = some (.int .u64 0) := (blk_cell BK154.out 14).trans rfl
  have hfs21 := blk_frozen BK154.out 14
  have hns21_0 := NB153_154.out
  have hms21_0 := NB154_153.out
  have hs22 : w6.cell? ⟨gb154, 15, none⟩ = some (.int .u64 0) := (blk_cell BK154.out 15).trans rfl
  have hfs22 := blk_frozen BK154.out 15
  have hns22_0 := NB153_154.out
  have hms22_0 := NB154_153.out
  have hs23 : w6.cell? ⟨gb154, 16, none⟩ = some (.int .i64 0) := (blk_cell BK154.out 16).trans rfl
  have hfs23 := blk_frozen BK154.out 16
  have hns23_0 := NB153_154.out
  have hms23_0 := NB154_153.out
  have hs24 : w6.cell? ⟨gb154, 17, none⟩ = some (.int .i64 0) := (blk_cell BK154.out 17).trans rfl
  have hfs24 := blk_frozen BK154.out 17
  have hns24_0 := NB153_154.out
  have hms24_0 := NB154_153.out
  refine skip_ (w1 := ?_) (by rfl) rfl ?_ ?_
  rotate_left
  · go_simp
    rfl
  refine hK.out _ _ ⟨((cell_far (p := ⟨gb154, _, none⟩) NB153_154.out _).trans (((cell_far (p := ⟨gb154, _, none⟩) NB153_154.out _).trans (((cell_far (p := ⟨gb154, _, none⟩) NB153_154.out _).trans (((cell_far (p := ⟨gb154, _, none⟩) NB153_154.out _).trans (((cell_far (p := ⟨gb154, _, none⟩) NB153_154.out _).trans (((cell_far (p := ⟨gb154, _, none⟩) NB153_154.out _).trans (((cell_far (p := ⟨gb154, _, none⟩) NB153_154.out _).trans (((cell_far (p := ⟨gb154, _, none⟩) NB153_154.out _).trans (((cell_far (p := ⟨gb154, _, none⟩) NB153_154.out _).trans (((cell_far (p := ⟨gb154, _, none⟩) NB153_154.out _).trans (((cell_far (p := ⟨gb154, _, none⟩) NB153_154.out _).trans (((cell_far (p := ⟨gb154, _, none⟩) NB153_154.out _).trans (((cell_far (p := ⟨gb154, _, none⟩) NB153_154.out _).trans (((cell_far (p := ⟨gb154, _, none⟩) NB153_154.out _).trans (((cell_far (p := ⟨gb154, _, none⟩) NB153_154.out _).trans (((cell_far (p := ⟨gb154, _, none⟩) NB153_154.out _).trans (((cell_far (p := ⟨gb154, _, none⟩) NB153_154.out _).trans (((cell_far (p := ⟨gb154, _, none⟩) NB153_154.out _).trans (hHeld.1)))))))))))))))))))))))))))))))))))), ((cell_far (p := ⟨gb154, _, none⟩) NB153_154.out _).trans (((cell_far (p := ⟨gb154, _, none⟩) NB153_154.out _).trans (((cell_far (p := ⟨gb154, _, none⟩) NB153_154.out _).trans (((cell_far (p := ⟨gb154, _, none⟩) NB153_154.out _).trans (((cell_far (p := ⟨gb154, _, none⟩) NB153_154.out _).trans (((cell_far (p := ⟨gb154, _, none⟩) NB153_154.out _).trans (((cell_far (p := ⟨gb154, _, none⟩) NB153_154.out _).trans (((cell_far (p := ⟨gb154, _, none⟩) NB153_154.out _).trans (((cell_far (p := ⟨gb154, _, none⟩) NB153_154.out _).trans (((cell_far (p := ⟨gb154, _, none⟩) NB153_154.out _).trans (((cell_far (p := ⟨gb154, _, none⟩) NB153_154.out _).trans (((cell_far (p := ⟨gb154, _, none⟩) NB153_154.out _).trans (((cell_far (p := ⟨gb154, _, none⟩) NB153_154.out _).trans (((cell_far (p := ⟨gb154, _, none⟩) NB153_154.out _).trans (((cell_far (p := ⟨gb154, _, none⟩) NB153_154.out _).trans (((cell_far (p := ⟨gb154, _, none⟩) NB153_154.out _).trans (((cell_far (p := ⟨gb154, _, none⟩) NB153_154.out _).trans (((cell_far (p := ⟨gb154, _, none⟩) NB153_154.out _).trans (hHeld.2.1)))))))))))))))))))))))))))))))))))), ((cell_far (p := ⟨gb154, _, none⟩) NB153_154.out _).trans (((cell_far (p := ⟨gb154, _, none⟩) NB153_154.out _).trans (((cell_far (p := ⟨gb154, _, none⟩) NB153_154.out _).trans (((cell_far (p := ⟨gb154, _, none⟩) NB153_154.out _).trans (((cell_far (p := ⟨gb154, _, none⟩) NB153_154.out _).trans (((cell_far (p := ⟨gb154, _, none⟩) NB153_154.out _).trans (((cell_far (p := ⟨gb154, _, none⟩) NB153_154.out _).trans (((cell_far (p := ⟨gb154, _, none⟩) NB153_154.out _).trans (((cell_far (p := ⟨gb154, _, none⟩) NB153_154.out _).trans (((cell_far (p := ⟨gb154, _, none⟩) NB153_154.out _).trans (((cell_far (p := ⟨gb154, _, none⟩) NB153_154.out _).trans (((cell_far (p := ⟨gb154, _, none⟩) NB153_154.out _).trans (((cell_far (p := ⟨gb154, _, none⟩) NB153_154.out _).trans (((cell_far (p := ⟨gb154, _, none⟩) NB153_154.out _).trans (((cell_far (p := ⟨gb154, _, none⟩) NB153_154.out _).trans (((cell_far (p := ⟨gb154, _, none⟩) NB153_154.out _).trans (((cell_far (p := ⟨gb154, _, none⟩) NB153_154.out _).trans (((cell_far (p := ⟨gb154, _, none⟩) NB153_154.out _).trans (hHeld.2.2.1)))))))))))))))))))))))))))))))))))), ((cell_far (p := ⟨gb154, _, none⟩) NB153_154.out _).trans (((cell_far (p := ⟨gb154, _, none⟩) NB153_154.out _).trans (((cell_far (p := ⟨gb154, _, none⟩) NB153_154.out _).trans (((cell_far (p := ⟨gb154, _, none⟩) NB153_154.out _).trans (((cell_far (p := ⟨gb154, _, none⟩) NB153_154.out _).trans (((cell_far (p := ⟨gb154, _, none⟩) NB153_154.out _).trans (((cell_far (p := ⟨gb154, _, none⟩) NB153_154.out _).trans (((cell_far (p := ⟨gb154, _, none⟩) NB153_154.out _).trans (((cell_far (p := ⟨gb154, _, none⟩) NB153_154.out _).trans (((cell_far (p := ⟨gb154, _, none⟩) NB153_154.out _).trans (((cell_far (p := ⟨gb154, _, none⟩) NB153_154.out _).trans (((cell_far (p := ⟨gb154, _, none⟩) NB153_154.out _).trans (((cell_far (p := ⟨gb154, _, none⟩) NB153_154.out _).trans (((cell_far (p := ⟨gb154, _, none⟩) NB153_154.out _).trans (((cell_far (p := ⟨gb154, _, none⟩) NB153_154.out _).trans (((cell_far (p := ⟨gb154, _, none⟩) NB153_154.out _).trans (((cell_far (p := ⟨gb154, _, none⟩) NB153_154.out _).trans (((cell_far (p := ⟨gb154, _, none⟩) NB153_154.out _).trans (hHeld.2.2.2.1)))))))))))))))))))))))))))))))))))), ((cell_far (p := ⟨gb154, _, none⟩) NB153_154.out _).trans (((cell_far (p := ⟨gb154, _, none⟩) NB153_154.out _).trans (((cell_far (p := ⟨gb154, _, none⟩) NB153_154.out _).trans (((cell_far (p := ⟨gb154, _, none⟩) NB153_154.out _).trans (((cell_far (p := ⟨gb154, _, none⟩) NB153_154.out _).trans (((cell_far (p := ⟨gb154, _, none⟩) NB153_154.out _).trans (((cell_far (p := ⟨gb154, _, none⟩) NB153_154.out _).trans (((cell_far (p := ⟨gb154, _, none⟩) NB153_154.out _).trans (((cell_far (p := ⟨gb154, _, none⟩) NB153_154.out _).trans (((cell_far (p := ⟨gb154, _, none⟩) NB153_154.out _).trans (((cell_far (p := ⟨gb154, _, none⟩) NB153_154.out _).trans (((cell_far (p := ⟨gb154, _, none⟩) NB153_154.out _).trans (((cell_far (p := ⟨gb154, _, none⟩) NB153_154.out _).trans (((cell_far (p := ⟨gb154, _, none⟩) NB153_154.out _).trans (((cell_far (p := ⟨gb154, _, none⟩) NB153_154.out _).trans (((cell_far (p := ⟨gb154, _, none⟩) NB153_154.out _).trans (((cell_far (p := ⟨gb154, _, none⟩) NB153_154.out _).trans (((cell_far (p := ⟨gb154, _, none⟩) NB153_154.out _).trans (hHeld.2.2.2.2.1)))))))))))))))))))))))))))))))))))), ((cell_far (p := ⟨gb154, _, none⟩) NB153_154.out _).trans (((cell_far (p := ⟨gb154, _, none⟩) NB153_154.out _).trans (((cell_far (p := ⟨gb154, _, none⟩) NB153_154.out _).trans (((cell_far (p := ⟨gb154, _, none⟩) NB153_154.out _).trans (((cell_far (p := ⟨gb154, _, none⟩) NB153_154.out _).trans (((cell_far (p := ⟨gb154, _, none⟩) NB153_154.out _).trans (((cell_far (p := ⟨gb154, _, none⟩) NB153_154.out _).trans (((cell_far (p := ⟨gb154, _, none⟩) NB153_154.out _).trans (((cell_far (p := ⟨gb154, _, none⟩) NB153_154.out _).trans (((cell_far (p := ⟨gb154, _, none⟩) NB153_154.out _).trans (((cell_far (p := ⟨gb154, _, none⟩) NB153_154.out _).trans (((cell_far (p := ⟨gb154, _, none⟩) NB153_154.out _).trans (((cell_far (p := ⟨gb154, _, none⟩) NB153_154.out _).trans (((cell_far (p := ⟨gb154, _, none⟩) NB153_154.out _).trans (((cell_far (p := ⟨gb154, _, none⟩) NB153_154.out _).trans (((cell_far (p := ⟨gb154, _, none⟩) NB153_154.out _).trans (((cell_far (p := ⟨gb154, _, none⟩) NB153_154.out _).trans (((cell_far (p := ⟨gb154, _, none⟩) NB153_154.out _).trans (hHeld.2.2.2.2.2.1)))))))))))))))))))))))))))))))))))), ((cell_far (p := ⟨gb154, _, none⟩) NB153_154.out _).trans (((cell_far (p := ⟨gb154, _, none⟩) NB153_154.out _).trans (((cell_far (p := ⟨gb154, _, none⟩) NB153_154.out _).trans (((cell_far (p := ⟨gb154, _, none⟩) NB153_154.out _).trans (((cell_far (p := ⟨gb154, _, none⟩) NB153_154.out _).trans (((cell_far (p := ⟨gb154, _, none⟩) NB153_154.out _).trans (((cell_far (p := ⟨gb154, _, none⟩) NB153_154.out _).trans (((cell_far (p := ⟨gb154, _, none⟩) NB153_154.out _).trans (((cell_far (p := ⟨gb154, _, none⟩) NB153_154.out _).trans (((cell_far (p := ⟨gb154, _, none⟩) NB153_154.out _).trans (((cell_far (p := ⟨gb154, _, none⟩) NB153_154.out _).trans (((cell_far (p := ⟨gb154, _, none⟩) NB153_154.out _).trans (((cell_far (p := ⟨gb154, _, none⟩) NB153_154.out _).trans (((cell_far (p := ⟨gb154, _, none⟩) NB153_154.out _).trans (((cell_far (p := ⟨gb154, _, none⟩) NB153_154.out _).trans (((cell_far (p := ⟨gb154, _, none⟩) NB153_154.out _).trans (((cell_far (p := ⟨gb154, _, none⟩) NB153_154.out _).trans (((cell_far (p := ⟨gb154, _, none⟩) NB153_154.out _).trans (hHeld.2.2.2.2.2.2.1)))))))))))))))))))))))))))))))))))), ((cell_far (p := ⟨gb154, _, none⟩) NB153_154.out _).trans (((cell_far (p := ⟨gb154, _, none⟩) NB153_154.out _).trans (((cell_far (p := ⟨gb154, _, none⟩) NB153_154.out _).trans (((cell_far (p := ⟨gb154, _, none⟩) NB153_154.out _).trans (((cell_far (p := ⟨gb154, _, none⟩) NB153_154.out _).trans (((cell_far (p := ⟨gb154, _, none⟩) NB153_154.out _).trans (((cell_far (p := ⟨gb154, _, none⟩) NB153_154.out _).trans (((cell_far (p := ⟨gb154, _, none⟩) NB153_154.out _).trans (((cell_far (p := ⟨gb154, _, none⟩) NB153_154.out _).trans (((cell_far (p := ⟨gb154, _, none⟩) NB153_154.out _).trans (((cell_far (p := ⟨gb154, _, none⟩) NB153_154.out _).trans (((cell_far (p := ⟨gb154, _, none⟩) NB153_154.out _).trans (((cell_far (p := ⟨gb154, _, none⟩) NB153_154.out _).trans (((cell_far (p := ⟨gb154, _, none⟩) NB153_154.out _).trans (((cell_far (p := ⟨gb154, _, none⟩) NB153_154.out _).trans (((cell_far (p := ⟨gb154, _, none⟩) NB153_154.out _).trans (((cell_far (p := ⟨gb154, _, none⟩) NB153_154.out _).trans (((cell_far (p := ⟨gb154, _, none⟩) NB153_154.out _).trans (hHeld.2.2.2.2.2.2.2.1)))))))))))))))))))))))))))))))))))), ((cell_far (p := ⟨gb154, _, none⟩) NB153_154.out _).trans (((cell_far (p := ⟨gb154, _, none⟩) NB153_154.out _).trans (((cell_far (p := ⟨gb154, _, none⟩) NB153_154.out _).trans (((cell_far (p := ⟨gb154, _, none⟩) NB153_154.out _).trans (((cell_far (p := ⟨gb154, _, none⟩) NB153_154.out _).trans (((cell_far (p := ⟨gb154, _, none⟩) NB153_154.out _).trans (((cell_far (p := ⟨gb154, _, none⟩) NB153_154.out _).trans (((cell_far (p := ⟨gb154, _, none⟩) NB153_154.out _).trans (((cell_far (p := ⟨gb154, _, none⟩) NB153_154.out _).trans (((cell_far (p := ⟨gb154, _, none⟩) NB153_154.out _).trans (((cell_far (p := ⟨gb154, _, none⟩) NB153_154.out _).trans (((cell_far (p := ⟨gb154, _, none⟩) NB153_154.out _).trans (((cell_far (p := ⟨gb154, _, none⟩) NB153_154.out _).trans (((cell_far (p := ⟨gb154, _, none⟩) NB153_154.out _).trans (((cell_far (p := ⟨gb154, _, none⟩) NB153_154.out _).trans (((cell_far (p := ⟨gb154, _, none⟩) NB153_154.out _).trans (((cell_far (p := ⟨gb154, _, none⟩) NB153_154.out _).trans (((cell_far (p := ⟨gb154, _, none⟩) NB153_154.out _).trans (hHeld.2.2.2.2.2.2.2.2.1)))))))))))))))))))))))))))))))))))), ((cell_far (p := ⟨gb154, _, none⟩) NB153_154.out _).trans (((cell_far (p := ⟨gb154, _, none⟩) NB153_154.out _).trans (((cell_far (p := ⟨gb154, _, none⟩) NB153_154.out _).trans (((cell_far (p := ⟨gb154, _, none⟩) NB153_154.out _).trans (((cell_far (p := ⟨gb154, _, none⟩) NB153_154.out _).trans (((cell_far (p := ⟨gb154, _, none⟩) NB153_154.out _).trans (((cell_far (p := ⟨gb154, _, none⟩) NB153_154.out _).trans (((cell_far (p := ⟨gb154, _, none⟩) NB153_154.out _).trans (((cell_far (p := ⟨gb154, _, none⟩) NB153_154.out _).trans (((cell_far (p := ⟨gb154, _, none⟩) NB153_154.out _).trans (((cell_far (p := ⟨gb154, _, none⟩) NB153_154.out _).trans (((cell_far (p := ⟨gb154, _, none⟩) NB153_154.out _).trans (((cell_far (p := ⟨gb154, _, none⟩) NB153_154.out _).trans (((cell_far (p := ⟨gb154, _, none⟩) NB153_154.out _).trans (((cell_far (p := ⟨gb154, _, none⟩) NB153_154.out _).trans (((cell_far (p := ⟨gb154, _, none⟩) NB153_154.out _).trans (((cell_far (p := ⟨gb154, _, none⟩) NB153_154.out _).trans (((cell_far (p := ⟨gb154, _, none⟩) NB153_154.out _).trans (hHeld.2.2.2.2.2.2.2.2.2.1)))))))))))))))))))))))))))))))))))), ((cell_far (p := ⟨gb154, _, none⟩) NB153_154.out _).trans (((cell_far (p := ⟨gb154, _, none⟩) NB153_154.out _).trans (((cell_far (p := ⟨gb154, _, none⟩) NB153_154.out _).trans (((cell_far (p := ⟨gb154, _, none⟩) NB153_154.out _).trans (((cell_far (p := ⟨gb154, _, none⟩) NB153_154.out _).trans (((cell_far (p := ⟨gb154, _, none⟩) NB153_154.out _).trans (((cell_far (p := ⟨gb154, _, none⟩) NB153_154.out _).trans (((cell_far (p := ⟨gb154, _, none⟩) NB153_154.out _).trans (((cell_far (p := ⟨gb154, _, none⟩) NB153_154.out _).trans (((cell_far (p := ⟨gb154, _, none⟩) NB153_154.out _).trans (((cell_far (p := ⟨gb154, _, none⟩) NB153_154.out _).trans (((cell_far (p := ⟨gb154, _, none⟩) NB153_154.out _).trans (((cell_far (p := ⟨gb154, _, none⟩) NB153_154.out _).trans (((cell_far (p := ⟨gb154, _, none⟩) NB153_154.out _).trans (((cell_far (p := ⟨gb154, _, none⟩) NB153_154.out _).trans (((cell_far (p := ⟨gb154, _, none⟩) NB153_154.out _).trans (((cell_far (p := ⟨gb154, _, none⟩) NB153_154.out _).trans (((cell_far (p := ⟨gb154, _, none⟩) NB153_154.out _).trans (hHeld.2.2.2.2.2.2.2.2.2.2.1)))))))))))))))))))))))))))))))))))), ((cell_far (p := ⟨gb154, _, none⟩) NB153_154.out _).trans (((cell_far (p := ⟨gb154, _, none⟩) NB153_154.out _).trans (((cell_far (p := ⟨gb154, _, none⟩) NB153_154.out _).trans (((cell_far (p := ⟨gb154, _, none⟩) NB153_154.out _).trans (((cell_far (p := ⟨gb154, _, none⟩) NB153_154.out _).trans (((cell_far (p := ⟨gb154, _, none⟩) NB153_154.out _).trans (((cell_far (p := ⟨gb154, _, none⟩) NB153_154.out _).trans (((cell_far (p := ⟨gb154, _, none⟩) NB153_154.out _).trans (((cell_far (p := ⟨gb154, _, none⟩) NB153_154.out _).trans (((cell_far (p := ⟨gb154, _, none⟩) NB153_154.out _).trans (((cell_far (p := ⟨gb154, _, none⟩) NB153_154.out _).trans (((cell_far (p := ⟨gb154, _, none⟩) NB153_154.out _).trans (((cell_far (p := ⟨gb154, _, none⟩) NB153_154.out _).trans (((cell_far (p := ⟨gb154, _, none⟩) NB153_154.out _).trans (((cell_far (p := ⟨gb154, _, none⟩) NB153_154.out _).trans (((cell_far (p := ⟨gb154, _, none⟩) NB153_154.out _).trans (((cell_far (p := ⟨gb154, _, none⟩) NB153_154.out _).trans (((cell_far (p := ⟨gb154, _, none⟩) NB153_154.out _).trans (hHeld.2.2.2.2.2.2.2.2.2.2.2.1)))))))))))))))))))))))))))))))))))), ((cell_far (p := ⟨gb154, _, none⟩) NB153_154.out _).trans (((cell_far (p := ⟨gb154, _, none⟩) NB153_154.out _).trans (((cell_far (p := ⟨gb154, _, none⟩) NB153_154.out _).trans (((cell_far (p := ⟨gb154, _, none⟩) NB153_154.out _).trans (((cell_far (p := ⟨gb154, _, none⟩) NB153_154.out _).trans (((cell_far (p := ⟨gb154, _, none⟩) NB153_154.out _).trans (((cell_far (p := ⟨gb154, _, none⟩) NB153_154.out _).trans (((cell_far (p := ⟨gb154, _, none⟩) NB153_154.out _).trans (((cell_far (p := ⟨gb154, _, none⟩) NB153_154.out _).trans (((cell_far (p := ⟨gb154, _, none⟩) NB153_154.out _).trans (((cell_far (p := ⟨gb154, _, none⟩) NB153_154.out _).trans (((cell_far (p := ⟨gb154, _, none⟩) NB153_154.out _).trans (((cell_far (p := ⟨gb154, _, none⟩) NB153_154.out _).trans (((cell_far (p := ⟨gb154, _, none⟩) NB153_154.out _).trans (((cell_far (p := ⟨gb154, _, none⟩) NB153_154.out _).trans (((cell_far (p := ⟨gb154, _, none⟩) NB153_154.out _).trans (((cell_far (p := ⟨gb154, _, none⟩) NB153_154.out _).trans (((cell_far (p := ⟨gb154, _, none⟩) NB153_154.out _).trans (hHeld.2.2.2.2.2.2.2.2.2.2.2.2.1)))))))))))))))))))))))))))))))))))), ((cell_far (p := ⟨gb154, _, none⟩) NB153_154.out _).trans (((cell_far (p := ⟨gb154, _, none⟩) NB153_154.out _).trans (((cell_far (p := ⟨gb154, _, none⟩) NB153_154.out _).trans (((cell_far (p := ⟨gb154, _, none⟩) NB153_154.out _).trans (((cell_far (p := ⟨gb154, _, none⟩) NB153_154.out _).trans (((cell_far (p := ⟨gb154, _, none⟩) NB153_154.out _).trans (((cell_far (p := ⟨gb154, _, none⟩) NB153_154.out _).trans (((cell_far (p := ⟨gb154, _, none⟩) NB153_154.out _).trans (((cell_far (p := ⟨gb154, _, none⟩) NB153_154.out _).trans (((cell_far (p := ⟨gb154, _, none⟩) NB153_154.out _).trans (((cell_far (p := ⟨gb154, _, none⟩) NB153_154.out _).trans (((cell_far (p := ⟨gb154, _, none⟩) NB153_154.out _).trans (((cell_far (p := ⟨gb154, _, none⟩) NB153_154.out _).trans (((cell_far (p := ⟨gb154, _, none⟩) NB153_154.out _).trans (((cell_far (p := ⟨gb154, _, none⟩) NB153_154.out _).trans (((cell_far (p := ⟨gb154, _, none⟩) NB153_154.out _).trans (((cell_far (p := ⟨gb154, _, none⟩) NB153_154.out _).trans (((cell_far (p := ⟨gb154, _, none⟩) NB153_154.out _).trans (hHeld.2.2.2.2.2.2.2.2.2.2.2.2.2.1)))))))))))))))))))))))))))))))))))), ((cell_far (p := ⟨gb154, _, none⟩) NB153_154.out _).trans (((cell_far (p := ⟨gb154, _, none⟩) NB153_154.out _).trans (((cell_far (p := ⟨gb154, _, none⟩) NB153_154.out _).trans (((cell_far (p := ⟨gb154, _, none⟩) NB153_154.out _).trans (((cell_far (p := ⟨gb154, _, none⟩) NB153_154.out _).trans (((cell_far (p := ⟨gb154, _, none⟩) NB153_154.out _).trans (((cell_far (p := ⟨gb154, _, none⟩) NB153_154.out _).trans (((cell_far (p := ⟨gb154, _, none⟩) NB153_154.out _).trans (((cell_far (p := ⟨gb154, _, none⟩) NB153_154.out _).trans (((cell_far (p := ⟨gb154, _, none⟩) NB153_154.out _).trans (((cell_far (p := ⟨gb154, _, none⟩) NB153_154.out _).trans (((cell_far (p := ⟨gb154, _, none⟩) NB153_154.out _).trans (((cell_far (p := ⟨gb154, _, none⟩) NB153_154.out _).trans (((cell_far (p := ⟨gb154, _, none⟩) NB153_154.out _).trans (((cell_far (p := ⟨gb154, _, none⟩) NB153_154.out _).trans (((cell_far (p := ⟨gb154, _, none⟩) NB153_154.out _).trans (((cell_far (p := ⟨gb154, _, none⟩) NB153_154.out _).trans (((cell_far (p := ⟨gb154, _, none⟩) NB153_154.out _).trans (hHeld.2.2.2.2.2.2.2.2.2.2.2.2.2.2.1)))))))))))))))))))))))))))))))))))), ((cell_far (p := ⟨gb154, _, none⟩) NB153_154.out _).trans (((cell_far (p := ⟨gb154, _, none⟩) NB153_154.out _).trans (((cell_far (p := ⟨gb154, _, none⟩) NB153_154.out _).trans (((cell_far (p := ⟨gb154, _, none⟩) NB153_154.out _).trans (((cell_far (p := ⟨gb154, _, none⟩) NB153_154.out _).trans (((cell_far (p := ⟨gb154, _, none⟩) NB153_154.out _).trans (((cell_far (p := ⟨gb154, _, none⟩) NB153_154.out _).trans (((cell_far (p := ⟨gb154, _, none⟩) NB153_154.out _).trans (((cell_far (p := ⟨gb154, _, none⟩) NB153_154.out _).trans (((cell_far (p := ⟨gb154, _, none⟩) NB153_154.out _).trans (((cell_far (p := ⟨gb154, _, none⟩) NB153_154.out _).trans (((cell_far (p := ⟨gb154, _, none⟩) NB153_154.out _).trans (((cell_far (p := ⟨gb154, _, none⟩) NB153_154.out _).trans (((cell_far (p := ⟨gb154, _, none⟩) NB153_154.out _).trans (((cell_far (p := ⟨gb154, _, none⟩) NB153_154.out _).trans (((cell_far (p := ⟨gb154, _, none⟩) NB153_154.out _).trans (((cell_far (p := ⟨gb154, _, none⟩) NB153_154.out _).trans (((cell_far (p := ⟨gb154, _, none⟩) NB153_154.out _).trans (hHeld.2.2.2.2.2.2.2.2.2.2.2.2.2.2.2.1)))))))))))))))))))))))))))))))))))), ((cell_far (p := ⟨gb154, _, none⟩) NB153_154.out _).trans (((cell_far (p := ⟨gb154, _, none⟩) NB153_154.out _).trans (((cell_far (p := ⟨gb154, _, none⟩) NB153_154.out _).trans (((cell_far (p := ⟨gb154, _, none⟩) NB153_154.out _).trans (((cell_far (p := ⟨gb154, _, none⟩) NB153_154.out _).trans (((cell_far (p := ⟨gb154, _, none⟩) NB153_154.out _).trans (((cell_far (p := ⟨gb154, _, none⟩) NB153_154.out _).trans (((cell_far (p := ⟨gb154, _, none⟩) NB153_154.out _).trans (((cell_far (p := ⟨gb154, _, none⟩) NB153_154.out _).trans (((cell_far (p := ⟨gb154, _, none⟩) NB153_154.out _).trans (((cell_far (p := ⟨gb154, _, none⟩) NB153_154.out _).trans (((cell_far (p := ⟨gb154, _, none⟩) NB153_154.out _).trans (((cell_far (p := ⟨gb154, _, none⟩) NB153_154.out _).trans (((cell_far (p := ⟨gb154, _, none⟩) NB153_154.out _).trans (((cell_far (p := ⟨gb154, _, none⟩) NB153_154.out _).trans (((cell_far (p := ⟨gb154, _, none⟩) NB153_154.out _).trans (((cell_far (p := ⟨gb154, _, none⟩) NB153_154.out _).trans (((cell_far (p := ⟨gb154, _, none⟩) NB153_154.out _).trans (hHeld.2.2.2.2.2.2.2.2.2.2.2.2.2.2.2.2.1)))))))))))))))))))))))))))))))))))), ((cell_far (p := ⟨gb154, _, none⟩) NB153_154.out _).trans (((cell_far (p := ⟨gb154, _, none⟩) NB153_154.out _).trans (((cell_far (p := ⟨gb154, _, none⟩) NB153_154.out _).trans (((cell_far (p := ⟨gb154, _, none⟩) NB153_154.out _).trans (((cell_far (p := ⟨gb154, _, none⟩) NB153_154.out _).trans (((cell_far (p := ⟨gb154, _, none⟩) NB153_154.out _).trans (((cell_far (p := ⟨gb154, _, none⟩) NB153_154.out _).trans (((cell_far (p := ⟨gb154, _, none⟩) NB153_154.out _).trans (((cell_far (p := ⟨gb154, _, none⟩) NB153_154.out _).trans (((cell_far (p := ⟨gb154, _, none⟩) NB153_154.out _).trans (((cell_far (p := ⟨gb154, _, none⟩) NB153_154.out _).trans (((cell_far (p := ⟨gb154, _, none⟩) NB153_154.out _).trans (((cell_far (p := ⟨gb154, _, none⟩) NB153_154.out _).trans (((cell_far (p := ⟨gb154, _, none⟩) NB153_154.out _).trans (((cell_far (p := ⟨gb154, _, none⟩) NB153_154.out _).trans (((cell_far (p := ⟨gb154, _, none⟩) NB153_154.out _).trans (((cell_far (p := ⟨gb154, _, none⟩) NB153_154.out _).trans (((cell_far (p := ⟨gb154, _, none⟩) NB153_154.out _).trans (hHeld.2.2.2.2.2.2.2.2.2.2.2.2.2.2.2.2.2))))))))))))))))))))))))))))))))))))⟩ (fun hHeld => ?_)
  clear hK K
  refine done_ (done_of HT_.out (by kernel_rfl)) ?_
  try go_wp2
  refine bodyPost_ret (results_cell_row rfl _ _ gb154 38 #[.int .i64 a0_0, .string a0_1, .int .u32 a0_2, .int .u64 a0_3, .bool a0_4, .bool a0_5, .int .u64 t155, .int .u64 t156, .int .i64 t157, .int .u64 t158, .slice t159.A t159.n t159.c, .int .u64 a0_11, .int .u64 a0_12, .int .i64 a0_13, .int .u64 a0_14, .int .u64 a0_15, .int .i64 a0_16, .int .i64 a0_17] (0, 0) _ rfl (by (with_reducible repeat (first | refine blk_drewN ?_ _ | refine blk_drew ?_ | refine blk_alloc ?_ _)); refine blk_put (cs := #[.int .i64 a0_0, .string a0_1, .int .u32 a0_2, .int .u64 a0_3, .bool a0_4, .bool a0_5, .int .u64 t155, .int .u64 t156, .int .i64 t157, .int .u64 t158, .slice t159.A t159.n t159.c, .int .u64 a0_11, .int .u64 a0_12, .int .i64 a0_13, .int .u64 a0_14, .int .u64 a0_15, .int .i64 a0_16, .int .i64 0]) ?_ 17 _ rfl; (with_reducible repeat (first | refine blk_drewN ?_ _ | refine blk_drew ?_ | refine blk_alloc ?_ _)); refine blk_put (cs := #[.int .i64 a0_0, .string a0_1, .int .u32 a0_2, .int .u64 a0_3, .bool a0_4, .bool a0_5, .int .u64 t155, .int .u64 t156, .int .i64 t157, .int .u64 t158, .slice t159.A t159.n t159.c, .int .u64 a0_11, .int .u64 a0_12, .int .i64 a0_13, .int .u64 a0_14, .int .u64 a0_15, .int .i64 0, .int .i64 0]) ?_ 16 _ rfl; (with_reducible repeat (first | refine blk_drewN ?_ _ | refine blk_drew ?_ | refine blk_alloc ?_ _)); refine blk_put (cs := #[.int .i64 a0_0, .string a0_1, .int .u32 a0_2, .int .u64 a0_3, .bool a0_4, .bool a0_5, .int .u64 t155, .int .u64 t156, .int .i64 t157, .int .u64 t158, .slice t159.A t159.n t159.c, .int .u64 a0_11, .int .u64 a0_12, .int .i64 a0_13, .int .u64 a0_14, .int .u64 0, .int .i64 0, .int .i64 0]) ?_ 15 _ rfl; (with_reducible repeat (first | refine blk_drewN ?_ _ | refine blk_drew ?_ | refine blk_alloc ?_ _)); refine blk_put (cs := #[.int .i64 a0_0, .string a0_1, .int .u32 a0_2, .int .u64 a0_3, .bool a0_4, .bool a0_5, .int .u64 t155, .int .u64 t156, .int .i64 t157, .int .u64 t158, .slice t159.A t159.n t159.c, .int .u64 a0_11, .int .u64 a0_12, .int .i64 a0_13, .int .u64 0, .int .u64 0, .int .i64 0, .int .i64 0]) ?_ 14 _ rfl; (with_reducible repeat (first | refine blk_drewN ?_ _ | refine blk_drew ?_ | refine blk_alloc ?_ _)); refine blk_put (cs := #[.int .i64 a0_0, .string a0_1, .int .u32 a0_2, .int .u64 a0_3, .bool a0_4, .bool a0_5, .int .u64 t155, .int .u64 t156, .int .i64 t157, .int .u64 t158, .slice t159.A t159.n t159.c, .int .u64 a0_11, .int .u64 a0_12, .int .i64 0, .int .u64 0, .int .u64 0, .int .i64 0, .int .i64 0]) ?_ 13 _ rfl; (with_reducible repeat (first | refine blk_drewN ?_ _ | refine blk_drew ?_ | refine blk_alloc ?_ _)); refine blk_put (cs := #[.int .i64 a0_0, .string a0_1, .int .u32 a0_2, .int .u64 a0_3, .bool a0_4, .bool a0_5, .int .u64 t155, .int .u64 t156, .int .i64 t157, .int .u64 t158, .slice t159.A t159.n t159.c, .int .u64 a0_11, .int .u64 0, .int .i64 0, .int .u64 0, .int .u64 0, .int .i64 0, .int .i64 0]) ?_ 12 _ rfl; (with_reducible repeat (first | refine blk_drewN ?_ _ | refine blk_drew ?_ | refine blk_alloc ?_ _)); refine blk_put (cs := #[.int .i64 a0_0, .string a0_1, .int .u32 a0_2, .int .u64 a0_3, .bool a0_4, .bool a0_5, .int .u64 t155, .int .u64 t156, .int .i64 t157, .int .u64 t158, .slice t159.A t159.n t159.c, .int .u64 0, .int .u64 0, .int .i64 0, .int .u64 0, .int .u64 0, .int .i64 0, .int .i64 0]) ?_ 11 _ rfl; (with_reducible repeat (first | refine blk_drewN ?_ _ | refine blk_drew ?_ | refine blk_alloc ?_ _)); refine blk_put (cs := #[.int .i64 a0_0, .string a0_1, .int .u32 a0_2, .int .u64 a0_3, .bool a0_4, .bool a0_5, .int .u64 t155, .int .u64 t156, .int .i64 t157, .int .u64 t158, .slice OV.nil.A OV.nil.n OV.nil.c, .int .u64 0, .int .u64 0, .int .i64 0, .int .u64 0, .int .u64 0, .int .i64 0, .int .i64 0]) ?_ 10 _ rfl; (with_reducible repeat (first | refine blk_drewN ?_ _ | refine blk_drew ?_ | refine blk_alloc ?_ _)); refine blk_put (cs := #[.int .i64 a0_0, .string a0_1, .int .u32 a0_2, .int .u64 a0_3, .bool a0_4, .bool a0_5, .int .u64 t155, .int .u64 t156, .int .i64 t157, .int .u64 0, .slice OV.nil.A OV.nil.n OV.nil.c, .int .u64 0, .int .u64 0, .int .i64 0, .int .u64 0, .int .u64 0, .int .i64 0, .int .i64 0]) ?_ 9 _ rfl; (with_reducible repeat (first | refine blk_drewN ?_ _ | refine blk_drew ?_ | refine blk_alloc ?_ _)); refine blk_put (cs := #[.int .i64 a0_0, .string a0_1, .int .u32 a0_2, .int .u64 a0_3, .bool a0_4, .bool a0_5, .int .u64 t155, .int .u64 t156, .int .i64 0, .int .u64 0, .slice OV.nil.A OV.nil.n OV.nil.c, .int .u64 0, .int .u64 0, .int .i64 0, .int .u64 0, .int .u64 0, .int .i64 0, .int .i64 0]) ?_ 8 _ rfl; (with_reducible repeat (first | refine blk_drewN ?_ _ | refine blk_drew ?_ | refine blk_alloc ?_ _)); refine blk_put (cs := #[.int .i64 a0_0, .string a0_1, .int .u32 a0_2, .int .u64 a0_3, .bool a0_4, .bool a0_5, .int .u64 t155, .int .u64 0, .int .i64 0, .int .u64 0, .slice OV.nil.A OV.nil.n OV.nil.c, .int .u64 0, .int .u64 0, .int .i64 0, .int .u64 0, .int .u64 0, .int .i64 0, .int .i64 0]) ?_ 7 _ rfl; (with_reducible repeat (first | refine blk_drewN ?_ _ | refine blk_drew ?_ | refine blk_alloc ?_ _)); refine blk_put (cs := #[.int .i64 a0_0, .string a0_1, .int .u32 a0_2, .int .u64 a0_3, .bool a0_4, .bool a0_5, .int .u64 0, .int .u64 0, .int .i64 0, .int .u64 0, .slice OV.nil.A OV.nil.n OV.nil.c, .int .u64 0, .int .u64 0, .int .i64 0, .int .u64 0, .int .u64 0, .int .i64 0, .int .i64 0]) ?_ 6 _ rfl; (with_reducible repeat (first | refine blk_drewN ?_ _ | refine blk_drew ?_ | refine blk_alloc ?_ _)); refine blk_put (cs := #[.int .i64 a0_0, .string a0_1, .int .u32 a0_2, .int .u64 a0_3, .bool a0_4, .bool false, .int .u64 0, .int .u64 0, .int .i64 0, .int .u64 0, .slice OV.nil.A OV.nil.n OV.nil.c, .int .u64 0, .int .u64 0, .int .i64 0, .int .u64 0, .int .u64 0, .int .i64 0, .int .i64 0]) ?_ 5 _ rfl; (with_reducible repeat (first | refine blk_drewN ?_ _ | refine blk_drew ?_ | refine blk_alloc ?_ _)); refine blk_put (cs := #[.int .i64 a0_0, .string a0_1, .int .u32 a0_2, .int .u64 a0_3, .bool false, .bool false, .int .u64 0, .int .u64 0, .int .i64 0, .int .u64 0, .slice OV.nil.A OV.nil.n OV.nil.c, .int .u64 0, .int .u64 0, .int .i64 0, .int .u64 0, .int .u64 0, .int .i64 0, .int .i64 0]) ?_ 4 _ rfl; (with_reducible repeat (first | refine blk_drewN ?_ _ | refine blk_drew ?_ | refine blk_alloc ?_ _)); refine blk_put (cs := #[.int .i64 a0_0, .string a0_1, .int .u32 a0_2, .int .u64 0, .bool false, .bool false, .int .u64 0, .int .u64 0, .int .i64 0, .int .u64 0, .slice OV.nil.A OV.nil.n OV.nil.c, .int .u64 0, .int .u64 0, .int .i64 0, .int .u64 0, .int .u64 0, .int .i64 0, .int .i64 0]) ?_ 3 _ rfl; (with_reducible repeat (first | refine blk_drewN ?_ _ | refine blk_drew ?_ | refine blk_alloc ?_ _)); refine blk_put (cs := #[.int .i64 a0_0, .string a0_1, .int .u32 0, .int .u64 0, .bool false, .bool false, .int .u64 0, .int .u64 0, .int .i64 0, .int .u64 0, .slice OV.nil.A OV.nil.n OV.nil.c, .int .u64 0, .int .u64 0, .int .i64 0, .int .u64 0, .int .u64 0, .int .i64 0, .int .i64 0]) ?_ 2 _ rfl; (with_reducible repeat (first | refine blk_drewN ?_ _ | refine blk_drew ?_ | refine blk_alloc ?_ _)); refine blk_put (cs := #[.int .i64 a0_0, .string (⟨#[]⟩ : ByteArray), .int .u32 0, .int .u64 0, .bool false, .bool false, .int .u64 0, .int .u64 0, .int .i64 0, .int .u64 0, .slice OV.nil.A OV.nil.n OV.nil.c, .int .u64 0, .int .u64 0, .int .i64 0, .int .u64 0, .int .u64 0, .int .i64 0, .int .i64 0]) ?_ 1 _ rfl; (with_reducible repeat (first | refine blk_drewN ?_ _ | refine blk_drew ?_ | refine blk_alloc ?_ _)); refine blk_put (cs := #[.int .i64 0, .string (⟨#[]⟩ : ByteArray), .int .u32 0, .int .u64 0, .bool false, .bool false, .int .u64 0, .int .u64 0, .int .i64 0, .int .u64 0, .slice OV.nil.A OV.nil.n OV.nil.c, .int .u64 0, .int .u64 0, .int .i64 0, .int .u64 0, .int .u64 0, .int .i64 0, .int .i64 0]) ?_ 0 _ rfl; (with_reducible repeat (first | refine blk_drewN ?_ _ | refine blk_drew ?_ | refine blk_alloc ?_ _)); exact BK154.out) Try.underlying38 rfl (by kernel_rfl)) rfl ?_
  exact ⟨by first | rfl | (simp [errW_none, errW_some] <;> rfl) | (simp [*, errW_none, errW_some] <;> rfl), by repeat (first | (with_reducible first | exact HB.out | apply below_alloc | apply pw_below_drewN | apply below_drew1 | refine below_set ?_ GE153.out | refine below_set ?_ GE154.out) | exact HB.out)⟩

theorem load18 {P : Program} {W : World} {ad : Addr} {n : Nat} {t : TypeId} {v0 v1 v2 v3 v4 v5 v6 v7 v8 v9 v10 v11 v12 v13 v14 v15 v16 v17 : Value} (hg : (isAgg t).run P W = .ok true W) (hs : (sizeOf t).run P W = .ok 18 W) (h0 : W.cell? (ad.add n) = some v0) (h1 : W.cell? ⟨(ad.add n).block, (ad.add n).off + 1, none⟩ = some v1) (h2 : W.cell? ⟨(ad.add n).block, (ad.add n).off + 2, none⟩ = some v2) (h3 : W.cell? ⟨(ad.add n).block, (ad.add n).off + 3, none⟩ = some v3) (h4 : W.cell? ⟨(ad.add n).block, (ad.add n).off + 4, none⟩ = some v4) (h5 : W.cell? ⟨(ad.add n).block, (ad.add n).off + 5, none⟩ = some v5) (h6 : W.cell? ⟨(ad.add n).block, (ad.add n).off + 6, none⟩ = some v6) (h7 : W.cell? ⟨(ad.add n).block, (ad.add n).off + 7, none⟩ = some v7) (h8 : W.cell? ⟨(ad.add n).block, (ad.add n).off + 8, none⟩ = some v8) (h9 : W.cell? ⟨(ad.add n).block, (ad.add n).off + 9, none⟩ = some v9) (h10 : W.cell? ⟨(ad.add n).block, (ad.add n).off + 10, none⟩ = some v10) (h11 : W.cell? ⟨(ad.add n).block, (ad.add n).off + 11, none⟩ = some v11) (h12 : W.cell? ⟨(ad.add n).block, (ad.add n).off + 12, none⟩ = some v12) (h13 : W.cell? ⟨(ad.add n).block, (ad.add n).off + 13, none⟩ = some v13) (h14 : W.cell? ⟨(ad.add n).block, (ad.add n).off + 14, none⟩ = some v14) (h15 : W.cell? ⟨(ad.add n).block, (ad.add n).off + 15, none⟩ = some v15) (h16 : W.cell? ⟨(ad.add n).block, (ad.add n).off + 16, none⟩ = some v16) (h17 : W.cell? ⟨(ad.add n).block, (ad.add n).off + 17, none⟩ = some v17) :
    (Instr.loadAt t (.pointer (some (ad.add n)))).run P W = .ok (.agg #[v0, v1, v2, v3, v4, v5, v6, v7, v8, v9, v10, v11, v12, v13, v14, v15, v16, v17]) W := by
  refine load_agg [v0, v1, v2, v3, v4, v5, v6, v7, v8, v9, v10, v11, v12, v13, v14, v15, v16, v17] hg hs (fun j u hj => ?_)
  rw [Go.Deep.add_add]
  rcases j with _ | _ | _ | _ | _ | _ | _ | _ | _ | _ | _ | _ | _ | _ | _ | _ | _ | _ | j
  · injection hj with hj; subst hj; exact h0
  · injection hj with hj; subst hj; exact (congrArg W.cell? (add_field ad n 1 (by omega))).trans h1
  · injection hj with hj; subst hj; exact (congrArg W.cell? (add_field ad n 2 (by omega))).trans h2
  · injection hj with hj; subst hj; exact (congrArg W.cell? (add_field ad n 3 (by omega))).trans h3
  · injection hj with hj; subst hj; exact (congrArg W.cell? (add_field ad n 4 (by omega))).trans h4
  · injection hj with hj; subst hj; exact (congrArg W.cell? (add_field ad n 5 (by omega))).trans h5
  · injection hj with hj; subst hj; exact (congrArg W.cell? (add_field ad n 6 (by omega))).trans h6
  · injection hj with hj; subst hj; exact (congrArg W.cell? (add_field ad n 7 (by omega))).trans h7
  · injection hj with hj; subst hj; exact (congrArg W.cell? (add_field ad n 8 (by omega))).trans h8
  · injection hj with hj; subst hj; exact (congrArg W.cell? (add_field ad n 9 (by omega))).trans h9
  · injection hj with hj; subst hj; exact (congrArg W.cell? (add_field ad n 10 (by omega))).trans h10
  · injection hj with hj; subst hj; exact (congrArg W.cell? (add_field ad n 11 (by omega))).trans h11
  · injection hj with hj; subst hj; exact (congrArg W.cell? (add_field ad n 12 (by omega))).trans h12
  · injection hj with hj; subst hj; exact (congrArg W.cell? (add_field ad n 13 (by omega))).trans h13
  · injection hj with hj; subst hj; exact (congrArg W.cell? (add_field ad n 14 (by omega))).trans h14
  · injection hj with hj; subst hj; exact (congrArg W.cell? (add_field ad n 15 (by omega))).trans h15
  · injection hj with hj; subst hj; exact (congrArg W.cell? (add_field ad n 16 (by omega))).trans h16
  · injection hj with hj; subst hj; exact (congrArg W.cell? (add_field ad n 17 (by omega))).trans h17
  · simp at hj
theorem exec_load {P : Program} {W : World} {ev : Operand → Value} {o : Oper} (x : Operand) (t : TypeId) (ho : o.op = .load t x) {p : Addr} (hx : ev x = .pointer (some p)) {v : Value}
    (hv : (Instr.loadAt t (.pointer (some p))).run P W = .ok v W) : (execOp ev o).run P W = .ok (.value v) W := by
  simp only [execOp, ho, hx]
  generalize Instr.loadAt t (.pointer (some p)) = m at *
  go_simp
/-! ### consortlaw23_ChunkCuts: function 3 -/
def consortlaw23_ChunkCuts.l0 : Nat → List (S42) → List (S38) → Int → Option (Bool)
  | 0, _, _, _ => none
  | k + 1, x5, x6, x7 => if x7 < (x5.length : Int) then (if 0 ≤ x7 then ((consortlaw19_Item.f ((rd_T42 x5 x7).f0) ((rd_T42 x5 x7).f1) ((rd_T42 x5 x7).f2) ((rd_T42 x5 x7).f3) ((rd_T42 x5 x7).f4) ((rd_T42 x5 x7).f5) ((rd_T42 x5 x7).f6.f0.f0) ((rd_T42 x5 x7).f6.f0.f1.f0) ((rd_T42 x5 x7).f6.f0.f1.f1) ((rd_T42 x5 x7).f6.f0.f2) ((rd_T42 x5 x7).f6.f1) ((rd_T42 x5 x7).f7.f0) ((rd_T42 x5 x7).f7.f1.f0) ((rd_T42 x5 x7).f7.f1.f1) ((rd_T42 x5 x7).f7.f2) ((rd_T42 x5 x7).f8) ((rd_T42 x5 x7).f9) ((rd_T42 x5 x7).f10)).bind fun bt168 => (if x7 < (x6.length : Int) then ((consortref19_Items.f bt168.1 bt168.2.1 bt168.2.2.1 bt168.2.2.2.1 bt168.2.2.2.2.1 bt168.2.2.2.2.2.1 bt168.2.2.2.2.2.2.1 bt168.2.2.2.2.2.2.2.1 bt168.2.2.2.2.2.2.2.2.1 bt168.2.2.2.2.2.2.2.2.2.1 bt168.2.2.2.2.2.2.2.2.2.2.1 bt168.2.2.2.2.2.2.2.2.2.2.2.1 bt168.2.2.2.2.2.2.2.2.2.2.2.2.1 bt168.2.2.2.2.2.2.2.2.2.2.2.2.2.1 bt168.2.2.2.2.2.2.2.2.2.2.2.2.2.2.1 bt168.2.2.2.2.2.2.2.2.2.2.2.2.2.2.2.1 bt168.2.2.2.2.2.2.2.2.2.2.2.2.2.2.2.2.1 bt168.2.2.2.2.2.2.2.2.2.2.2.2.2.2.2.2.2 ((rd_T38 x6 x7).f0) ((rd_T38 x6 x7).f1) ((rd_T38 x6 x7).f2) ((rd_T38 x6 x7).f3) ((rd_T38 x6 x7).f4) ((rd_T38 x6 x7).f5) ((rd_T38 x6 x7).f6.f0.f0) ((rd_T38 x6 x7).f6.f0.f1.f0) ((rd_T38 x6 x7).f6.f0.f1.f1) ((rd_T38 x6 x7).f6.f0.f2) ((rd_T38 x6 x7).f6.f1) ((rd_T38 x6 x7).f7.f0) ((rd_T38 x6 x7).f7.f1.f0) ((rd_T38 x6 x7).f7.f1.f1) ((rd_T38 x6 x7).f7.f2) ((rd_T38 x6 x7).f8) ((rd_T38 x6 x7).f9) ((rd_T38 x6 x7).f10)).bind fun t187 => (if t187 = true then (consortlaw23_ChunkCuts.l0 k x5 x6 (wrap64 (x7 + 1))) else (some false))) else (none))) else (none)) else (some true)
def consortlaw23_ChunkCuts.f (k : Nat) (a0 : Int) (a1 : ByteArray) : Option (Bool) := (consortlaw23_awake.f k).bind fun t160 => (if t160 = true then (if (a1.size : Int) > 20000 then (some true) else ((chunk_Items.f k a0 a1).bind fun t161 => ((consortref23_Items.f k a0 a1).bind fun t164 => (if (t161.length : Int) = (t164.length : Int) then (consortlaw23_ChunkCuts.l0 k t161 t164 0) else (some false))))) else (some false))
theorem consortlaw23_ChunkCuts.mono_l : ∀ k, (∀ y0 y1 y2, LeO (consortlaw23_ChunkCuts.l0 k y0 y1 y2) (consortlaw23_ChunkCuts.l0 (k + 1) y0 y1 y2))
  | 0 => fun _ _ _ r h => by simp [consortlaw23_ChunkCuts.l0] at h
  | k + 1 => by
    have ih0 := consortlaw23_ChunkCuts.mono_l k
    · intro y0 y1 y2
      unfold consortlaw23_ChunkCuts.l0
      repeat' first
      | (with_reducible exact ih0 _ _ _)
      | (with_reducible exact chunk_Items.mono _ _ _)
      | (with_reducible exact consortlaw23_awake.mono _)
      | (with_reducible exact consortref23_Items.mono _ _ _)
      | (with_reducible exact LeO.refl _)
      | (with_reducible exact LeO.none _)
      | (with_reducible refine LeO.ite ?_ ?_)
      | (with_reducible refine LeO.bind ?_ (fun _ => ?_))
      | exact ih0 _ _ _
      | exact chunk_Items.mono _ _ _
      | exact consortlaw23_awake.mono _
      | exact consortref23_Items.mono _ _ _
      | exact LeO.none _
      | refine LeO.ite ?_ ?_
      | refine LeO.bind ?_ (fun _ => ?_)
theorem consortlaw23_ChunkCuts.mono : ∀ a0 a1 k, LeO (consortlaw23_ChunkCuts.f k a0 a1) (consortlaw23_ChunkCuts.f (k + 1) a0 a1) := by
  intro a0 a1 k
  have ih0 := consortlaw23_ChunkCuts.mono_l k
  unfold consortlaw23_ChunkCuts.f
  repeat' first
      | (with_reducible exact ih0 _ _ _)
      | (with_reducible exact chunk_Items.mono _ _ _)
      | (with_reducible exact consortlaw23_awake.mono _)
      | (with_reducible exact consortref23_Items.mono _ _ _)
      | (with_reducible exact LeO.refl _)
      | (with_reducible exact LeO.none _)
      | (with_reducible refine LeO.ite ?_ ?_)
      | (with_reducible refine LeO.bind ?_ (fun _ => ?_))
      | exact ih0 _ _ _
      | exact chunk_Items.mono _ _ _
      | exact consortlaw23_awake.mono _
      | exact consortref23_Items.mono _ _ _
      | exact LeO.none _
      | refine LeO.ite ?_ ?_
      | refine LeO.bind ?_ (fun _ => ?_)
def consortlaw23_ChunkCuts.T11 : Bool × List (List Nat × List Nat) := (true, [([], []), ([], []), ([0, 1], [0, 1]), ([2], [2]), ([3], [3]), ([], []), ([], []), ([5, 6], [5, 6]), ([7], [7]), ([4, 8, 4], [4, 8]), ([9], [9])])
def consortlaw23_ChunkCuts.B11 : List Nat := [0, 0, 3, 7, 15, 0, 0, 96, 224, 511, 1023]
theorem consortlaw23_ChunkCuts.tab11 : rtab .any (opsOf Try.f3 11) = consortlaw23_ChunkCuts.T11 := by kernel_rfl
theorem consortlaw23_ChunkCuts.bits11 : waitsOk consortlaw23_ChunkCuts.T11.2 consortlaw23_ChunkCuts.B11 = true := by kernel_rfl
set_option maxHeartbeats 8000000 in
set_option maxRecDepth 100000 in
theorem consortlaw23_ChunkCuts.calls (k : Nat) (a0 : Int) (a1 : ByteArray) (w : World) (h : consortlaw23_ChunkCuts.f k a0 a1 = some true) :
    Calls Try.prog 3 #[.int .u64 a0, .string a1] w fun e w' => e = .returned (.bool true) ∧ Below w.heap.size w w' := by
  have hu42 := Try.underlying42
  have hu38 := Try.underlying38
  have HB := Aside0.mk (Below.refl w.heap.size w)
  have H : ((consortlaw23_awake.f k).bind fun t160 => (if t160 = true then (if (a1.size : Int) > 20000 then (some true) else ((chunk_Items.f k a0 a1).bind fun t161 => ((consortref23_Items.f k a0 a1).bind fun t164 => (if (t161.length : Int) = (t164.length : Int) then (consortlaw23_ChunkCuts.l0 k t161 t164 0) else (some false))))) else (some false))) = some true := h
  clear h
  replace H := Option.bind_eq_some_iff.mp H
  obtain ⟨t160, A30, H⟩ := H
  replace H : (if t160 = true then (if (a1.size : Int) > 20000 then (some true) else ((chunk_Items.f k a0 a1).bind fun t161 => ((consortref23_Items.f k a0 a1).bind fun t164 => (if (t161.length : Int) = (t164.length : Int) then (consortlaw23_ChunkCuts.l0 k t161 t164 0) else (some false))))) else (some false)) = some true := H
  have A3 := Aside0.mk A30
  clear A30
  by_cases c4 : t160 = true
  · subst c4
    have H1 : (if (a1.size : Int) > 20000 then (some true) else ((chunk_Items.f k a0 a1).bind fun t161 => ((consortref23_Items.f k a0 a1).bind fun t164 => (if (t161.length : Int) = (t164.length : Int) then (consortlaw23_ChunkCuts.l0 k t161 t164 0) else (some false))))) = some true := by first | (rw [if_pos rfl] at H; done) | (rw [if_pos rfl] at H; exact H)
    clear H
    have H := H1
    clear H1
    by_cases c5 : (a1.size : Int) > 20000
    · rw [if_pos c5] at H
      have c5b0 : decide (20000 < (a1.size : Int)) = true := decide_eq_true c5
      have c5b1 : decide (20000 < a1.size) = true := decide_eq_true (by omega)
      clear c5
      clear H
      go_enter Try.func3, Try.ntmps3
      go_wp2_with (first | ((with_reducible refine gate_callee (f := 6) rfl ?_); refine goesL_ (some 8) rfl rfl Try.func6 (by kernel_rfl) rfl #[] rfl (by (try simp only [List.map_toArray, List.map_cons, List.map_nil]); first | done | rfl | (simp only [List.length_drop, List.length_take]; rfl)) ?_; (with_reducible refine (consortlaw23_awake.calls k  true _ A3.out).mono ?_); rintro e w6 ⟨rfl, hb⟩; refine ⟨_, rfl, ?_⟩; have n0_ := Aside0.mk (below_step (by repeat (first | (with_reducible first | exact HB.out | apply below_alloc | apply pw_below_drewN | apply below_drew1) | exact HB.out)) hb); clear HB; have HB := n0_; clear n0_; (try clear hb); (try clear hb2); (try clear hk); (try clear hi)))
      go_ret
      exact ⟨by first | rfl | (simp [errW_none, errW_some] <;> rfl) | (simp [*, errW_none, errW_some] <;> rfl), by repeat (first | (with_reducible first | exact HB.out | apply below_alloc | apply pw_below_drewN | apply below_drew1) | exact HB.out)⟩
    · rw [if_neg c5] at H
      have c5b0 : decide (20000 < (a1.size : Int)) = false := decide_eq_false c5
      have c5b1 : decide (20000 < a1.size) = false := decide_eq_false (by omega)
      clear c5
      replace H := Option.bind_eq_some_iff.mp H
      obtain ⟨t161, A70, H⟩ := H
      replace H : ((consortref23_Items.f k a0 a1).bind fun t164 => (if (t161.length : Int) = (t164.length : Int) then (consortlaw23_ChunkCuts.l0 k t161 t164 0) else (some false))) = some true := H
      have A7 := Aside0.mk A70
      clear A70
      replace H := Option.bind_eq_some_iff.mp H
      obtain ⟨t164, A80, H⟩ := H
      replace H : (if (t161.length : Int) = (t164.length : Int) then (consortlaw23_ChunkCuts.l0 k t161 t164 0) else (some false)) = some true := H
      have A8 := Aside0.mk A80
      clear A80
      by_cases c9 : (t161.length : Int) = (t164.length : Int)
      · rw [if_pos c9] at H
        have c9b0 : ((t161.length : Int) == (t164.length : Int)) = true := beq_iff_eq.mpr c9
        have c9b1 : ((t161.length : Int) != (t164.length : Int)) = false := bne_eq_false_iff_eq.mpr c9
        have c9b2 : (t161.length == t164.length) = true := by first | simpa using c9 | (simp at c9 ⊢; omega)
        clear c9
        have H' := Aside0.mk H
        clear H
        go_enter Try.func3, Try.ntmps3
        go_wp2_with (first | ((with_reducible refine gate_callee (f := 6) rfl ?_); refine goesL_ (some 8) rfl rfl Try.func6 (by kernel_rfl) rfl #[] rfl (by (try simp only [List.map_toArray, List.map_cons, List.map_nil]); first | done | rfl | (simp only [List.length_drop, List.length_take]; rfl)) ?_; (with_reducible refine (consortlaw23_awake.calls k  true _ A3.out).mono ?_); rintro e w10 ⟨rfl, hb⟩; refine ⟨_, rfl, ?_⟩; have n0_ := Aside0.mk (below_step (by repeat (first | (with_reducible first | exact HB.out | apply below_alloc | apply pw_below_drewN | apply below_drew1) | exact HB.out)) hb); clear HB; have HB := n0_; clear n0_; (try clear hb); (try clear hb2); (try clear hk); (try clear hi)) | ((with_reducible refine gate_callee (f := 7) rfl ?_); refine goesL_ (some 15) rfl rfl Try.func7 (by kernel_rfl) rfl #[.int .u64 a0, .string a1] rfl (by (try simp only [List.map_toArray, List.map_cons, List.map_nil]); first | done | rfl | (simp only [List.length_drop, List.length_take]; rfl)) ?_; (with_reducible refine (chunk_Items.calls k a0 a1 t161 _ A7.out).mono ?_); rintro e w11 ⟨v162, rfl, ho0, hb⟩; refine ⟨_, rfl, ?_⟩; have n0_ := Aside0.mk (Kd.R_lower ho0 (below_size (by repeat (first | (with_reducible first | exact HB.out | apply below_alloc | apply pw_below_drewN | apply below_drew1) | exact HB.out)))); have n1_ := Aside0.mk (below_step (by repeat (first | (with_reducible first | exact HB.out | apply below_alloc | apply pw_below_drewN | apply below_drew1) | exact HB.out)) hb); clear HB; have HO163 := n0_; have HB := n1_; clear n0_ n1_; (try clear hb); (try clear hb2); (try clear hk); (try clear hi); (try clear ho0)) | ((with_reducible refine gate_callee (f := 8) rfl ?_); refine goesL_ (some 18) rfl rfl Try.func8 (by kernel_rfl) rfl #[.int .u64 a0, .string a1] rfl (by (try simp only [List.map_toArray, List.map_cons, List.map_nil]); first | done | rfl | (simp only [List.length_drop, List.length_take]; rfl)) ?_; (with_reducible refine (consortref23_Items.calls k a0 a1 t164 _ A8.out).mono ?_); rintro e w12 ⟨v165, rfl, ho0, hb⟩; refine ⟨_, rfl, ?_⟩; have n0_ := Aside0.mk (Kd.R_below (by (with_reducible repeat (first | apply Kd.R_alloc | apply Kd.R_drewN | apply Kd.R_drew)); exact HO163.out) hb); have n1_ := Aside0.mk (Kd.R_lower ho0 (below_size (by repeat (first | (with_reducible first | exact HB.out | apply below_alloc | apply pw_below_drewN | apply below_drew1) | exact HB.out)))); have n2_ := Aside0.mk (below_step (by repeat (first | (with_reducible first | exact HB.out | apply below_alloc | apply pw_below_drewN | apply below_drew1) | exact HB.out)) hb); clear HO163; clear HB; have HO163 := n0_; have HO166 := n1_; have HB := n2_; clear n0_ n1_ n2_; (try clear hb); (try clear hb2); (try clear hk); (try clear hi); (try clear ho0); obtain ⟨Ao13, co13, eo13⟩ := Kd.R_slice HO163.out; subst eo13; obtain ⟨Ao14, co14, eo14⟩ := Kd.R_slice HO166.out; subst eo14))
        go_loopg [7] k (fun kq v7 w' => ∃ (x7_1 : Int), v7 = .int .i64 x7_1 ∧ Aside0 (consortlaw23_ChunkCuts.l0 kq t161 t164 x7_1 = some true) ∧ Aside0 (kq ≤ k) ∧ Aside0 (Kd.R k42 42 w' w.heap.size (fun _ => True) (.slice Ao13 t161.length co13) t161) ∧ Aside0 (Kd.R k38 38 w' w.heap.size (fun _ => True) (.slice Ao14 t164.length co14) t164) ∧ Aside0 (Below w.heap.size w w'))
        case atStart => exact ⟨(0), (by first | rfl | (simp; done) | (simp [*]; done)), H', ⟨Nat.le_refl _⟩, ⟨by (with_reducible repeat (first | apply Kd.R_alloc | apply Kd.R_drewN | apply Kd.R_drew)); exact HO163.out⟩, ⟨by (with_reducible repeat (first | apply Kd.R_alloc | apply Kd.R_drewN | apply Kd.R_drew)); exact HO166.out⟩, ⟨by repeat (first | (with_reducible first | exact HB.out | apply below_alloc | apply pw_below_drewN | apply below_drew1) | exact HB.out)⟩⟩
        case round =>
          clear H'
          try clear p2
          try clear c3
          try clear c4
          try clear c5
          try clear c5b0
          try clear c5b1
          try clear c6
          try clear c7
          try clear c8
          try clear c9
          try clear c9b0
          try clear c9b1
          try clear c9b2
          obtain ⟨x7_1, rfl, HA, HK1, HO_5, HO_6, HB⟩ := hrel
          cases gk with
          | zero => exact absurd HA.out (by simp [consortlaw23_ChunkCuts.l0])
          | succ k1 =>
            have H := HA.out
            clear HA
            simp only [consortlaw23_ChunkCuts.l0] at H
            by_cases c15 : x7_1 < (t161.length : Int)
            · rw [if_pos c15] at H
              have c15b0 : decide (x7_1 < (t161.length : Int)) = true := decide_eq_true c15
              clear c15
              by_cases c16 : 0 ≤ x7_1
              · rw [if_pos c16] at H
                have c16b0 : decide (0 ≤ x7_1) = true := decide_eq_true c16
                clear c16
                replace H := Option.bind_eq_some_iff.mp H
                obtain ⟨⟨t168, t169, t170, t171, t172, t173, t174, t175, t176, t177, t178, t179, t180, t181, t182, t183, t184, t185⟩, A170, H⟩ := H
                replace H : (if x7_1 < (t164.length : Int) then ((consortref19_Items.f t168 t169 t170 t171 t172 t173 t174 t175 t176 t177 t178 t179 t180 t181 t182 t183 t184 t185 ((rd_T38 t164 x7_1).f0) ((rd_T38 t164 x7_1).f1) ((rd_T38 t164 x7_1).f2) ((rd_T38 t164 x7_1).f3) ((rd_T38 t164 x7_1).f4) ((rd_T38 t164 x7_1).f5) ((rd_T38 t164 x7_1).f6.f0.f0) ((rd_T38 t164 x7_1).f6.f0.f1.f0) ((rd_T38 t164 x7_1).f6.f0.f1.f1) ((rd_T38 t164 x7_1).f6.f0.f2) ((rd_T38 t164 x7_1).f6.f1) ((rd_T38 t164 x7_1).f7.f0) ((rd_T38 t164 x7_1).f7.f1.f0) ((rd_T38 t164 x7_1).f7.f1.f1) ((rd_T38 t164 x7_1).f7.f2) ((rd_T38 t164 x7_1).f8) ((rd_T38 t164 x7_1).f9) ((rd_T38 t164 x7_1).f10)).bind fun t187 => (if t187 = true then (consortlaw23_ChunkCuts.l0 k1 t161 t164 (wrap64 (x7_1 + 1))) else (some false))) else (none)) = some true := H
                have A17 := Aside0.mk A170
                clear A170
                by_cases c18 : x7_1 < (t164.length : Int)
                · rw [if_pos c18] at H
                  have c18b0 : decide (x7_1 < (t164.length : Int)) = true := decide_eq_true c18
                  clear c18
                  replace H := Option.bind_eq_some_iff.mp H
                  obtain ⟨t187, A190, H⟩ := H
                  replace H : (if t187 = true then (consortlaw23_ChunkCuts.l0 k1 t161 t164 (wrap64 (x7_1 + 1))) else (some false)) = some true := H
                  have A19 := Aside0.mk A190
                  clear A190
                  by_cases c20 : t187 = true
                  · subst c20
                    have H1 : (consortlaw23_ChunkCuts.l0 k1 t161 t164 (wrap64 (x7_1 + 1))) = some true := by first | (rw [if_pos rfl] at H; done) | (rw [if_pos rfl] at H; exact H)
                    clear H
                    have H := H1
                    clear H1
                    have H' := Aside0.mk H
                    clear H
                    try go_wp2
                    have n0_ := Aside0.mk (Kd.R_drew HO_5.out)
                    have n1_ := Aside0.mk (Kd.R_drew HO_6.out)
                    have n2_ := Aside0.mk (below_drew1 HB.out)
                    clear HO_5
                    clear HO_6
                    clear HB
                    have HO_5 := n0_
                    have HO_6 := n1_
                    have HB := n2_
                    clear n0_ n1_ n2_
                    have p167 : 0 ≤ (x7_1 : Int) := of_decide_eq_true (by first | (with_reducible assumption) | assumption)
                    have q167 : x7_1 < (t161.length : Int) := of_decide_eq_true (by first | (with_reducible assumption) | assumption)
                    obtain ⟨ad167, e167, hx167_0, hx167_1, hx167_2, hx167_3, hx167_4, hx167_5, hx167_6, hx167_7, hx167_8, hx167_9, hx167_10, hx167_11, hx167_12, hx167_13, hx167_14, hx167_15, hx167_16, hx167_17⟩ := at_T42 (Kd.R_reads' HO_5.out).2.2 x7_1 p167 q167
                    cases e167
                    replace p167 := eq_true p167
                    replace q167 := eq_true q167
                    have p186 : 0 ≤ (x7_1 : Int) := of_decide_eq_true (by first | (with_reducible assumption) | assumption)
                    have q186 : x7_1 < (t164.length : Int) := of_decide_eq_true (by first | (with_reducible assumption) | assumption)
                    obtain ⟨ad186, e186, hx186_0, hx186_1, hx186_2, hx186_3, hx186_4, hx186_5, hx186_6, hx186_7, hx186_8, hx186_9, hx186_10, hx186_11, hx186_12, hx186_13, hx186_14, hx186_15, hx186_16, hx186_17⟩ := at_T38 (Kd.R_reads' HO_6.out).2.2 x7_1 p186 q186
                    cases e186
                    replace p186 := eq_true p186
                    replace q186 := eq_true q186
                    refine start_ (n := 11) (S := fun w' => w'.cell? (ad167.add ((x7_1).toNat * 18)) = some (.int .i64 ((rd_T42 t161 x7_1).f0)) ∧ w'.cell? ⟨(ad167.add ((x7_1).toNat * 18)).block, (ad167.add ((x7_1).toNat * 18)).off + 1, none⟩ = some (.string ((rd_T42 t161 x7_1).f1)) ∧ w'.cell? ⟨(ad167.add ((x7_1).toNat * 18)).block, (ad167.add ((x7_1).toNat * 18)).off + 2, none⟩ = some (.int .u32 ((rd_T42 t161 x7_1).f2)) ∧ w'.cell? ⟨(ad167.add ((x7_1).toNat * 18)).block, (ad167.add ((x7_1).toNat * 18)).off + 3, none⟩ = some (.int .u64 ((rd_T42 t161 x7_1).f3)) ∧ w'.cell? ⟨(ad167.add ((x7_1).toNat * 18)).block, (ad167.add ((x7_1).toNat * 18)).off + 4, none⟩ = some (.bool ((rd_T42 t161 x7_1).f4)) ∧ w'.cell? ⟨(ad167.add ((x7_1).toNat * 18)).block, (ad167.add ((x7_1).toNat * 18)).off + 5, none⟩ = some (.bool ((rd_T42 t161 x7_1).f5)) ∧ w'.cell? ⟨(ad167.add ((x7_1).toNat * 18)).block, (ad167.add ((x7_1).toNat * 18)).off + 6, none⟩ = some (.int .u64 ((rd_T42 t161 x7_1).f6.f0.f0)) ∧ w'.cell? ⟨(ad167.add ((x7_1).toNat * 18)).block, (ad167.add ((x7_1).toNat * 18)).off + 7, none⟩ = some (.int .u64 ((rd_T42 t161 x7_1).f6.f0.f1.f0)) ∧ w'.cell? ⟨(ad167.add ((x7_1).toNat * 18)).block, (ad167.add ((x7_1).toNat * 18)).off + 8, none⟩ = some (.int .i64 ((rd_T42 t161 x7_1).f6.f0.f1.f1)) ∧ w'.cell? ⟨(ad167.add ((x7_1).toNat * 18)).block, (ad167.add ((x7_1).toNat * 18)).off + 9, none⟩ = some (.int .u64 ((rd_T42 t161 x7_1).f6.f0.f2)) ∧ w'.cell? ⟨(ad167.add ((x7_1).toNat * 18)).block, (ad167.add ((x7_1).toNat * 18)).off + 10, none⟩ = some (.slice ((rd_T42 t161 x7_1).f6.f1).A ((rd_T42 t161 x7_1).f6.f1).n ((rd_T42 t161 x7_1).f6.f1).c) ∧ w'.cell? ⟨(ad167.add ((x7_1).toNat * 18)).block, (ad167.add ((x7_1).toNat * 18)).off + 11, none⟩ = some (.int .u64 ((rd_T42 t161 x7_1).f7.f0)) ∧ w'.cell? ⟨(ad167.add ((x7_1).toNat * 18)).block, (ad167.add ((x7_1).toNat * 18)).off + 12, none⟩ = some (.int .u64 ((rd_T42 t161 x7_1).f7.f1.f0)) ∧ w'.cell? ⟨(ad167.add ((x7_1).toNat * 18)).block, (ad167.add ((x7_1).toNat * 18)).off + 13, none⟩ = some (.int .i64 ((rd_T42 t161 x7_1).f7.f1.f1)) ∧ w'.cell? ⟨(ad167.add ((x7_1).toNat * 18)).block, (ad167.add ((x7_1).toNat * 18)).off + 14, none⟩ = some (.int .u64 ((rd_T42 t161 x7_1).f7.f2)) ∧ w'.cell? ⟨(ad167.add ((x7_1).toNat * 18)).block, (ad167.add ((x7_1).toNat * 18)).off + 15, none⟩ = some (.int .u64 ((rd_T42 t161 x7_1).f8)) ∧ w'.cell? ⟨(ad167.add ((x7_1).toNat * 18)).block, (ad167.add ((x7_1).toNat * 18)).off + 16, none⟩ = some (.int .i64 ((rd_T42 t161 x7_1).f9)) ∧ w'.cell? ⟨(ad167.add ((x7_1).toNat * 18)).block, (ad167.add ((x7_1).toNat * 18)).off + 17, none⟩ = some (.int .i64 ((rd_T42 t161 x7_1).f10)) ∧ w'.cell? (ad186.add ((x7_1).toNat * 18)) = some (.int .i64 ((rd_T38 t164 x7_1).f0)) ∧ w'.cell? ⟨(ad186.add ((x7_1).toNat * 18)).block, (ad186.add ((x7_1).toNat * 18)).off + 1, none⟩ = some (.string ((rd_T38 t164 x7_1).f1)) ∧ w'.cell? ⟨(ad186.add ((x7_1).toNat * 18)).block, (ad186.add ((x7_1).toNat * 18)).off + 2, none⟩ = some (.int .u32 ((rd_T38 t164 x7_1).f2)) ∧ w'.cell? ⟨(ad186.add ((x7_1).toNat * 18)).block, (ad186.add ((x7_1).toNat * 18)).off + 3, none⟩ = some (.int .u64 ((rd_T38 t164 x7_1).f3)) ∧ w'.cell? ⟨(ad186.add ((x7_1).toNat * 18)).block, (ad186.add ((x7_1).toNat * 18)).off + 4, none⟩ = some (.bool ((rd_T38 t164 x7_1).f4)) ∧ w'.cell? ⟨(ad186.add ((x7_1).toNat * 18)).block, (ad186.add ((x7_1).toNat * 18)).off + 5, none⟩ = some (.bool ((rd_T38 t164 x7_1).f5)) ∧ w'.cell? ⟨(ad186.add ((x7_1).toNat * 18)).block, (ad186.add ((x7_1).toNat * 18)).off + 6, none⟩ = some (.int .u64 ((rd_T38 t164 x7_1).f6.f0.f0)) ∧ w'.cell? ⟨(ad186.add ((x7_1).toNat * 18)).block, (ad186.add ((x7_1).toNat * 18)).off + 7, none⟩ = some (.int .u64 ((rd_T38 t164 x7_1).f6.f0.f1.f0)) ∧ w'.cell? ⟨(ad186.add ((x7_1).toNat * 18)).block, (ad186.add ((x7_1).toNat * 18)).off + 8, none⟩ = some (.int .i64 ((rd_T38 t164 x7_1).f6.f0.f1.f1)) ∧ w'.cell? ⟨(ad186.add ((x7_1).toNat * 18)).block, (ad186.add ((x7_1).toNat * 18)).off + 9, none⟩ = some (.int .u64 ((rd_T38 t164 x7_1).f6.f0.f2)) ∧ w'.cell? ⟨(ad186.add ((x7_1).toNat * 18)).block, (ad186.add ((x7_1).toNat * 18)).off + 10, none⟩ = some (.slice ((rd_T38 t164 x7_1).f6.f1).A ((rd_T38 t164 x7_1).f6.f1).n ((rd_T38 t164 x7_1).f6.f1).c) ∧ w'.cell? ⟨(ad186.add ((x7_1).toNat * 18)).block, (ad186.add ((x7_1).toNat * 18)).off + 11, none⟩ = some (.int .u64 ((rd_T38 t164 x7_1).f7.f0)) ∧ w'.cell? ⟨(ad186.add ((x7_1).toNat * 18)).block, (ad186.add ((x7_1).toNat * 18)).off + 12, none⟩ = some (.int .u64 ((rd_T38 t164 x7_1).f7.f1.f0)) ∧ w'.cell? ⟨(ad186.add ((x7_1).toNat * 18)).block, (ad186.add ((x7_1).toNat * 18)).off + 13, none⟩ = some (.int .i64 ((rd_T38 t164 x7_1).f7.f1.f1)) ∧ w'.cell? ⟨(ad186.add ((x7_1).toNat * 18)).block, (ad186.add ((x7_1).toNat * 18)).off + 14, none⟩ = some (.int .u64 ((rd_T38 t164 x7_1).f7.f2)) ∧ w'.cell? ⟨(ad186.add ((x7_1).toNat * 18)).block, (ad186.add ((x7_1).toNat * 18)).off + 15, none⟩ = some (.int .u64 ((rd_T38 t164 x7_1).f8)) ∧ w'.cell? ⟨(ad186.add ((x7_1).toNat * 18)).block, (ad186.add ((x7_1).toNat * 18)).off + 16, none⟩ = some (.int .i64 ((rd_T38 t164 x7_1).f9)) ∧ w'.cell? ⟨(ad186.add ((x7_1).toNat * 18)).block, (ad186.add ((x7_1).toNat * 18)).off + 17, none⟩ = some (.int .i64 ((rd_T38 t164 x7_1).f10))) (ds := []) #[false, false, false, false, false, false, false, false, false, false, false] (by kernel_rfl) rfl rfl ⟨hx167_0, hx167_1, hx167_2, hx167_3, hx167_4, hx167_5, hx167_6, hx167_7, hx167_8, hx167_9, hx167_10, hx167_11, hx167_12, hx167_13, hx167_14, hx167_15, hx167_16, hx167_17, hx186_0, hx186_1, hx186_2, hx186_3, hx186_4, hx186_5, hx186_6, hx186_7, hx186_8, hx186_9, hx186_10, hx186_11, hx186_12, hx186_13, hx186_14, hx186_15, hx186_16, hx186_17⟩ (fun hHeld => ?_); refine with_tabW consortlaw23_ChunkCuts.tab11 consortlaw23_ChunkCuts.bits11 (fun HT_ HW_ => ?_)
                    generalize wr.drew = w21 at HO_5 HO_6 HB hx167_0 hx167_1 hx167_10 hx167_11 hx167_12 hx167_13 hx167_14 hx167_15 hx167_16 hx167_17 hx167_2 hx167_3 hx167_4 hx167_5 hx167_6 hx167_7 hx167_8 hx167_9 hx186_0 hx186_1 hx186_10 hx186_11 hx186_12 hx186_13 hx186_14 hx186_15 hx186_16 hx186_17 hx186_2 hx186_3 hx186_4 hx186_5 hx186_6 hx186_7 hx186_8 hx186_9 hHeld ⊢
                    refine pure_ (i := 0) (N := some 30) (v := ?_) (a' := ?_) #[true, false, false, false, false, false, false, false, false, false, false] rfl rfl (any_of HT_.out (by kernel_rfl)) (fun _ _ _ h => h) (Or.inl ⟨by rfl, ?_⟩) ?_ ?_
                    rotate_left
                    · intro w'
                      go_simp
                      with_reducible rfl
                    rotate_left
                    · simp only [Act.put, List.setIfInBounds_toArray, List.set_cons_zero, List.set_cons_succ, i64_w, i32_w]
                      rfl
                    refine pure_ (i := 1) (N := some 31) (v := ?_) (a' := ?_) #[true, true, false, false, false, false, false, false, false, false, false] rfl rfl (any_of HT_.out (by kernel_rfl)) (fun _ _ _ h => h) (Or.inl ⟨by rfl, ?_⟩) ?_ ?_
                    rotate_left
                    · intro w'
                      go_simp
                      with_reducible rfl
                    rotate_left
                    · simp only [Act.put, List.setIfInBounds_toArray, List.set_cons_zero, List.set_cons_succ, i64_w, i32_w]
                      rfl
                    refine pure_ (i := 2) (N := some 32) (v := ?_) (a' := ?_) #[true, true, true, false, false, false, false, false, false, false, false] rfl rfl (any_of HT_.out (by kernel_rfl)) (fun _ _ _ h => h) (Or.inl ⟨by rfl, ?_⟩) ?_ ?_
                    rotate_left
                    · intro w'
                      go_simp
                      with_reducible rfl
                    rotate_left
                    · simp only [Act.put, List.setIfInBounds_toArray, List.set_cons_zero, List.set_cons_succ, i64_w, i32_w]
                      rfl
                    refine pure_ (i := 5) (N := some 35) (v := ?_) (a' := ?_) #[true, true, true, false, false, true, false, false, false, false, false] rfl rfl (any_of HT_.out (by kernel_rfl)) (fun _ _ _ h => h) (Or.inl ⟨by rfl, ?_⟩) ?_ ?_
                    rotate_left
                    · intro w'
                      go_simp
                      with_reducible rfl
                    rotate_left
                    · simp only [Act.put, List.setIfInBounds_toArray, List.set_cons_zero, List.set_cons_succ, i64_w, i32_w]
                      rfl
                    refine pure_ (i := 6) (N := some 36) (v := ?_) (a' := ?_) #[true, true, true, false, false, true, true, false, false, false, false] rfl rfl (any_of HT_.out (by kernel_rfl)) (fun _ _ _ h => h) (Or.inl ⟨by rfl, ?_⟩) ?_ ?_
                    rotate_left
                    · intro w'
                      go_simp
                      with_reducible rfl
                    rotate_left
                    · simp only [Act.put, List.setIfInBounds_toArray, List.set_cons_zero, List.set_cons_succ, i64_w, i32_w]
                      rfl
                    refine pure_ (i := 7) (N := some 37) (v := ?_) (a' := ?_) #[true, true, true, false, false, true, true, true, false, false, false] rfl rfl (any_of HT_.out (by kernel_rfl)) (fun _ _ _ h => h) (Or.inl ⟨by rfl, ?_⟩) ?_ ?_
                    rotate_left
                    · intro w'
                      go_simp
                      with_reducible rfl
                    rotate_left
                    · simp only [Act.put, List.setIfInBounds_toArray, List.set_cons_zero, List.set_cons_succ, i64_w, i32_w]
                      rfl
                    refine take_ (i := 3) (N := some 33) (v := ?_) (a' := ?_) #[true, true, true, true, false, true, true, true, false, false, false] rfl rfl (take_ofW HT_.out HW_.out (by kernel_rfl)) (fun _ _ _ h => h) (Or.inl ⟨by rfl, ?_⟩) hHeld ?_ ?_
                    rotate_left
                    · rintro w' ⟨s0, s1, s2, s3, s4, s5, s6, s7, s8, s9, s10, s11, s12, s13, s14, s15, s16, s17, s18, s19, s20, s21, s22, s23, s24, s25, s26, s27, s28, s29, s30, s31, s32, s33, s34, s35⟩
                      refine Eq.trans (exec_load (P := Try.prog) (W := w') (.tmp 32) 42 rfl rfl (load18 (P := Try.prog) (W := w') (t := 42) (by kernel_rfl) (by kernel_rfl) s0 s1 s2 s3 s4 s5 s6 s7 s8 s9 s10 s11 s12 s13 s14 s15 s16 s17)) ?_
                      with_reducible rfl
                    rotate_left
                    · simp only [Act.put, List.setIfInBounds_toArray, List.set_cons_zero, List.set_cons_succ, i64_w, i32_w]
                      rfl
                    refine take_ (i := 8) (N := some 38) (v := ?_) (a' := ?_) #[true, true, true, true, false, true, true, true, true, false, false] rfl rfl (take_ofW HT_.out HW_.out (by kernel_rfl)) (fun _ _ _ h => h) (Or.inl ⟨by rfl, ?_⟩) hHeld ?_ ?_
                    rotate_left
                    · rintro w' ⟨s0, s1, s2, s3, s4, s5, s6, s7, s8, s9, s10, s11, s12, s13, s14, s15, s16, s17, s18, s19, s20, s21, s22, s23, s24, s25, s26, s27, s28, s29, s30, s31, s32, s33, s34, s35⟩
                      refine Eq.trans (exec_load (P := Try.prog) (W := w') (.tmp 37) 38 rfl rfl (load18 (P := Try.prog) (W := w') (t := 38) (by kernel_rfl) (by kernel_rfl) s18 s19 s20 s21 s22 s23 s24 s25 s26 s27 s28 s29 s30 s31 s32 s33 s34 s35)) ?_
                      with_reducible rfl
                    rotate_left
                    · simp only [Act.put, List.setIfInBounds_toArray, List.set_cons_zero, List.set_cons_succ, i64_w, i32_w]
                      rfl
                    refine one_ (i := 4) (N := some 34) #[true, true, true, true, true, true, true, true, true, false, false] rfl rfl (one_of HT_.out (by kernel_rfl)) (by decide) (fun K hK => ?_)
                    refine goes_ Try.func10 (by kernel_rfl) rfl #[.agg #[.int .i64 ((rd_T42 t161 x7_1).f0), .string ((rd_T42 t161 x7_1).f1), .int .u32 ((rd_T42 t161 x7_1).f2), .int .u64 ((rd_T42 t161 x7_1).f3), .bool ((rd_T42 t161 x7_1).f4), .bool ((rd_T42 t161 x7_1).f5), .int .u64 ((rd_T42 t161 x7_1).f6.f0.f0), .int .u64 ((rd_T42 t161 x7_1).f6.f0.f1.f0), .int .i64 ((rd_T42 t161 x7_1).f6.f0.f1.f1), .int .u64 ((rd_T42 t161 x7_1).f6.f0.f2), .slice ((rd_T42 t161 x7_1).f6.f1).A ((rd_T42 t161 x7_1).f6.f1).n ((rd_T42 t161 x7_1).f6.f1).c, .int .u64 ((rd_T42 t161 x7_1).f7.f0), .int .u64 ((rd_T42 t161 x7_1).f7.f1.f0), .int .i64 ((rd_T42 t161 x7_1).f7.f1.f1), .int .u64 ((rd_T42 t161 x7_1).f7.f2), .int .u64 ((rd_T42 t161 x7_1).f8), .int .i64 ((rd_T42 t161 x7_1).f9), .int .i64 ((rd_T42 t161 x7_1).f10)]] (by rfl) rfl rfl (by (try simp only [List.map_toArray, List.map_cons, List.map_nil]); first | done | rfl | (simp only [List.length_drop, List.length_take]; rfl)) ?_
                    with_reducible refine (consortlaw19_Item.calls ((rd_T42 t161 x7_1).f0) ((rd_T42 t161 x7_1).f1) ((rd_T42 t161 x7_1).f2) ((rd_T42 t161 x7_1).f3) ((rd_T42 t161 x7_1).f4) ((rd_T42 t161 x7_1).f5) ((rd_T42 t161 x7_1).f6.f0.f0) ((rd_T42 t161 x7_1).f6.f0.f1.f0) ((rd_T42 t161 x7_1).f6.f0.f1.f1) ((rd_T42 t161 x7_1).f6.f0.f2) ((rd_T42 t161 x7_1).f6.f1) ((rd_T42 t161 x7_1).f7.f0) ((rd_T42 t161 x7_1).f7.f1.f0) ((rd_T42 t161 x7_1).f7.f1.f1) ((rd_T42 t161 x7_1).f7.f2) ((rd_T42 t161 x7_1).f8) ((rd_T42 t161 x7_1).f9) ((rd_T42 t161 x7_1).f10) t168 t169 t170 t171 t172 t173 t174 t175 t176 t177 t178 t179 t180 t181 t182 t183 t184 t185 _ A17.out).mono ?_
                    rintro e w22 ⟨rfl, hb⟩
                    have HS0_ := (hb.cell (World.block_lt_of_cell? _ _ (hHeld.1))).trans (hHeld.1)
                    have HS1_ := (hb.cell (World.block_lt_of_cell? _ _ (hHeld.2.1))).trans (hHeld.2.1)
                    have HS2_ := (hb.cell (World.block_lt_of_cell? _ _ (hHeld.2.2.1))).trans (hHeld.2.2.1)
                    have HS3_ := (hb.cell (World.block_lt_of_cell? _ _ (hHeld.2.2.2.1))).trans (hHeld.2.2.2.1)
                    have HS4_ := (hb.cell (World.block_lt_of_cell? _ _ (hHeld.2.2.2.2.1))).trans (hHeld.2.2.2.2.1)
                    have HS5_ := (hb.cell (World.block_lt_of_cell? _ _ (hHeld.2.2.2.2.2.1))).trans (hHeld.2.2.2.2.2.1)
                    have HS6_ := (hb.cell (World.block_lt_of_cell? _ _ (hHeld.2.2.2.2.2.2.1))).trans (hHeld.2.2.2.2.2.2.1)
                    have HS7_ := (hb.cell (World.block_lt_of_cell? _ _ (hHeld.2.2.2.2.2.2.2.1))).trans (hHeld.2.2.2.2.2.2.2.1)
                    have HS8_ := (hb.cell (World.block_lt_of_cell? _ _ (hHeld.2.2.2.2.2.2.2.2.1))).trans (hHeld.2.2.2.2.2.2.2.2.1)
                    have HS9_ := (hb.cell (World.block_lt_of_cell? _ _ (hHeld.2.2.2.2.2.2.2.2.2.1))).trans (hHeld.2.2.2.2.2.2.2.2.2.1)
                    have HS10_ := (hb.cell (World.block_lt_of_cell? _ _ (hHeld.2.2.2.2.2.2.2.2.2.2.1))).trans (hHeld.2.2.2.2.2.2.2.2.2.2.1)
                    have HS11_ := (hb.cell (World.block_lt_of_cell? _ _ (hHeld.2.2.2.2.2.2.2.2.2.2.2.1))).trans (hHeld.2.2.2.2.2.2.2.2.2.2.2.1)
                    have HS12_ := (hb.cell (World.block_lt_of_cell? _ _ (hHeld.2.2.2.2.2.2.2.2.2.2.2.2.1))).trans (hHeld.2.2.2.2.2.2.2.2.2.2.2.2.1)
                    have HS13_ := (hb.cell (World.block_lt_of_cell? _ _ (hHeld.2.2.2.2.2.2.2.2.2.2.2.2.2.1))).trans (hHeld.2.2.2.2.2.2.2.2.2.2.2.2.2.1)
                    have HS14_ := (hb.cell (World.block_lt_of_cell? _ _ (hHeld.2.2.2.2.2.2.2.2.2.2.2.2.2.2.1))).trans (hHeld.2.2.2.2.2.2.2.2.2.2.2.2.2.2.1)
                    have HS15_ := (hb.cell (World.block_lt_of_cell? _ _ (hHeld.2.2.2.2.2.2.2.2.2.2.2.2.2.2.2.1))).trans (hHeld.2.2.2.2.2.2.2.2.2.2.2.2.2.2.2.1)
                    have HS16_ := (hb.cell (World.block_lt_of_cell? _ _ (hHeld.2.2.2.2.2.2.2.2.2.2.2.2.2.2.2.2.1))).trans (hHeld.2.2.2.2.2.2.2.2.2.2.2.2.2.2.2.2.1)
                    have HS17_ := (hb.cell (World.block_lt_of_cell? _ _ (hHeld.2.2.2.2.2.2.2.2.2.2.2.2.2.2.2.2.2.1))).trans (hHeld.2.2.2.2.2.2.2.2.2.2.2.2.2.2.2.2.2.1)
                    have HS18_ := (hb.cell (World.block_lt_of_cell? _ _ (hHeld.2.2.2.2.2.2.2.2.2.2.2.2.2.2.2.2.2.2.1))).trans (hHeld.2.2.2.2.2.2.2.2.2.2.2.2.2.2.2.2.2.2.1)
                    have HS19_ := (hb.cell (World.block_lt_of_cell? _ _ (hHeld.2.2.2.2.2.2.2.2.2.2.2.2.2.2.2.2.2.2.2.1))).trans (hHeld.2.2.2.2.2.2.2.2.2.2.2.2.2.2.2.2.2.2.2.1)
                    have HS20_ := (hb.cell (World.block_lt_of_cell? _ _ (hHeld.2.2.2.2.2.2.2.2.2.2.2.2.2.2.2.2.2.2.2.2.1))).trans (hHeld.2.2.2.2.2.2.2.2.2.2.2.2.2.2.2.2.2.2.2.2.1)
                    have HS21_ := (hb.cell (World.block_lt_of_cell? _ _ (hHeld.2.2.2.2.2.2.2.2.2.2.2.2.2.2.2.2.2.2.2.2.2.1))).trans (hHeld.2.2.2.2.2.2.2.2.2.2.2.2.2.2.2.2.2.2.2.2.2.1)
                    have HS22_ := (hb.cell (World.block_lt_of_cell? _ _ (hHeld.2.2.2.2.2.2.2.2.2.2.2.2.2.2.2.2.2.2.2.2.2.2.1))).trans (hHeld.2.2.2.2.2.2.2.2.2.2.2.2.2.2.2.2.2.2.2.2.2.2.1)
                    have HS23_ := (hb.cell (World.block_lt_of_cell? _ _ (hHeld.2.2.2.2.2.2.2.2.2.2.2.2.2.2.2.2.2.2.2.2.2.2.2.1))).trans (hHeld.2.2.2.2.2.2.2.2.2.2.2.2.2.2.2.2.2.2.2.2.2.2.2.1)
                    have HS24_ := (hb.cell (World.block_lt_of_cell? _ _ (hHeld.2.2.2.2.2.2.2.2.2.2.2.2.2.2.2.2.2.2.2.2.2.2.2.2.1))).trans (hHeld.2.2.2.2.2.2.2.2.2.2.2.2.2.2.2.2.2.2.2.2.2.2.2.2.1)
                    have HS25_ := (hb.cell (World.block_lt_of_cell? _ _ (hHeld.2.2.2.2.2.2.2.2.2.2.2.2.2.2.2.2.2.2.2.2.2.2.2.2.2.1))).trans (hHeld.2.2.2.2.2.2.2.2.2.2.2.2.2.2.2.2.2.2.2.2.2.2.2.2.2.1)
                    have HS26_ := (hb.cell (World.block_lt_of_cell? _ _ (hHeld.2.2.2.2.2.2.2.2.2.2.2.2.2.2.2.2.2.2.2.2.2.2.2.2.2.2.1))).trans (hHeld.2.2.2.2.2.2.2.2.2.2.2.2.2.2.2.2.2.2.2.2.2.2.2.2.2.2.1)
                    have HS27_ := (hb.cell (World.block_lt_of_cell? _ _ (hHeld.2.2.2.2.2.2.2.2.2.2.2.2.2.2.2.2.2.2.2.2.2.2.2.2.2.2.2.1))).trans (hHeld.2.2.2.2.2.2.2.2.2.2.2.2.2.2.2.2.2.2.2.2.2.2.2.2.2.2.2.1)
                    have HS28_ := (hb.cell (World.block_lt_of_cell? _ _ (hHeld.2.2.2.2.2.2.2.2.2.2.2.2.2.2.2.2.2.2.2.2.2.2.2.2.2.2.2.2.1))).trans (hHeld.2.2.2.2.2.2.2.2.2.2.2.2.2.2.2.2.2.2.2.2.2.2.2.2.2.2.2.2.1)
                    have HS29_ := (hb.cell (World.block_lt_of_cell? _ _ (hHeld.2.2.2.2.2.2.2.2.2.2.2.2.2.2.2.2.2.2.2.2.2.2.2.2.2.2.2.2.2.1))).trans (hHeld.2.2.2.2.2.2.2.2.2.2.2.2.2.2.2.2.2.2.2.2.2.2.2.2.2.2.2.2.2.1)
                    have HS30_ := (hb.cell (World.block_lt_of_cell? _ _ (hHeld.2.2.2.2.2.2.2.2.2.2.2.2.2.2.2.2.2.2.2.2.2.2.2.2.2.2.2.2.2.2.1))).trans (hHeld.2.2.2.2.2.2.2.2.2.2.2.2.2.2.2.2.2.2.2.2.2.2.2.2.2.2.2.2.2.2.1)
                    have HS31_ := (hb.cell (World.block_lt_of_cell? _ _ (hHeld.2.2.2.2.2.2.2.2.2.2.2.2.2.2.2.2.2.2.2.2.2.2.2.2.2.2.2.2.2.2.2.1))).trans (hHeld.2.2.2.2.2.2.2.2.2.2.2.2.2.2.2.2.2.2.2.2.2.2.2.2.2.2.2.2.2.2.2.1)
                    have HS32_ := (hb.cell (World.block_lt_of_cell? _ _ (hHeld.2.2.2.2.2.2.2.2.2.2.2.2.2.2.2.2.2.2.2.2.2.2.2.2.2.2.2.2.2.2.2.2.1))).trans (hHeld.2.2.2.2.2.2.2.2.2.2.2.2.2.2.2.2.2.2.2.2.2.2.2.2.2.2.2.2.2.2.2.2.1)
                    have HS33_ := (hb.cell (World.block_lt_of_cell? _ _ (hHeld.2.2.2.2.2.2.2.2.2.2.2.2.2.2.2.2.2.2.2.2.2.2.2.2.2.2.2.2.2.2.2.2.2.1))).trans (hHeld.2.2.2.2.2.2.2.2.2.2.2.2.2.2.2.2.2.2.2.2.2.2.2.2.2.2.2.2.2.2.2.2.2.1)
                    have HS34_ := (hb.cell (World.block_lt_of_cell? _ _ (hHeld.2.2.2.2.2.2.2.2.2.2.2.2.2.2.2.2.2.2.2.2.2.2.2.2.2.2.2.2.2.2.2.2.2.2.1))).trans (hHeld.2.2.2.2.2.2.2.2.2.2.2.2.2.2.2.2.2.2.2.2.2.2.2.2.2.2.2.2.2.2.2.2.2.2.1)
                    have HS35_ := (hb.cell (World.block_lt_of_cell? _ _ (hHeld.2.2.2.2.2.2.2.2.2.2.2.2.2.2.2.2.2.2.2.2.2.2.2.2.2.2.2.2.2.2.2.2.2.2.2))).trans (hHeld.2.2.2.2.2.2.2.2.2.2.2.2.2.2.2.2.2.2.2.2.2.2.2.2.2.2.2.2.2.2.2.2.2.2.2)
                    refine ⟨_, rfl, ?_⟩
                    have n0_ := Aside0.mk (Kd.R_below (by (with_reducible repeat (first | apply Kd.R_alloc | apply Kd.R_drewN | apply Kd.R_drew)); exact HO_5.out) hb)
                    have n1_ := Aside0.mk (Kd.R_below (by (with_reducible repeat (first | apply Kd.R_alloc | apply Kd.R_drewN | apply Kd.R_drew)); exact HO_6.out) hb)
                    have n2_ := Aside0.mk (below_step (by repeat (first | (with_reducible first | exact HB.out | apply below_alloc | apply pw_below_drewN | apply below_drew1) | exact HB.out)) hb)
                    clear HO_5
                    clear HO_6
                    clear HB
                    have HO_5 := n0_
                    have HO_6 := n1_
                    have HB := n2_
                    clear n0_ n1_ n2_
                    (try clear hb)
                    (try clear hb2)
                    (try clear hk)
                    (try clear hi)
                    refine hK.out _ _ ⟨HS0_, HS1_, HS2_, HS3_, HS4_, HS5_, HS6_, HS7_, HS8_, HS9_, HS10_, HS11_, HS12_, HS13_, HS14_, HS15_, HS16_, HS17_, HS18_, HS19_, HS20_, HS21_, HS22_, HS23_, HS24_, HS25_, HS26_, HS27_, HS28_, HS29_, HS30_, HS31_, HS32_, HS33_, HS34_, HS35_⟩ (fun hHeld => ?_)
                    clear hK K
                    refine norm_ (a' := ?_) ?_ ?_
                    rotate_left
                    · show Act.put _ (some 34) _ = _
                      simp only [Act.put, List.setIfInBounds_toArray, List.set_cons_zero, List.set_cons_succ, i64_w, i32_w]
                      rfl
                    refine one_ (i := 9) (N := some 39) #[true, true, true, true, true, true, true, true, true, true, false] rfl rfl (one_of HT_.out (by kernel_rfl)) (by decide) (fun K hK => ?_)
                    refine goes_ Try.func9 (by kernel_rfl) rfl #[.agg #[.int .i64 t168, .string t169, .int .u32 t170, .int .u64 t171, .bool t172, .bool t173, .int .u64 t174, .int .u64 t175, .int .i64 t176, .int .u64 t177, .slice t178.A t178.n t178.c, .int .u64 t179, .int .u64 t180, .int .i64 t181, .int .u64 t182, .int .u64 t183, .int .i64 t184, .int .i64 t185], .agg #[.int .i64 ((rd_T38 t164 x7_1).f0), .string ((rd_T38 t164 x7_1).f1), .int .u32 ((rd_T38 t164 x7_1).f2), .int .u64 ((rd_T38 t164 x7_1).f3), .bool ((rd_T38 t164 x7_1).f4), .bool ((rd_T38 t164 x7_1).f5), .int .u64 ((rd_T38 t164 x7_1).f6.f0.f0), .int .u64 ((rd_T38 t164 x7_1).f6.f0.f1.f0), .int .i64 ((rd_T38 t164 x7_1).f6.f0.f1.f1), .int .u64 ((rd_T38 t164 x7_1).f6.f0.f2), .slice ((rd_T38 t164 x7_1).f6.f1).A ((rd_T38 t164 x7_1).f6.f1).n ((rd_T38 t164 x7_1).f6.f1).c, .int .u64 ((rd_T38 t164 x7_1).f7.f0), .int .u64 ((rd_T38 t164 x7_1).f7.f1.f0), .int .i64 ((rd_T38 t164 x7_1).f7.f1.f1), .int .u64 ((rd_T38 t164 x7_1).f7.f2), .int .u64 ((rd_T38 t164 x7_1).f8), .int .i64 ((rd_T38 t164 x7_1).f9), .int .i64 ((rd_T38 t164 x7_1).f10)]] (by rfl) rfl rfl (by (try simp only [List.map_toArray, List.map_cons, List.map_nil]); first | done | rfl | (simp only [List.length_drop, List.length_take]; rfl)) ?_
                    with_reducible refine (consortref19_Items.calls t168 t169 t170 t171 t172 t173 t174 t175 t176 t177 t178 t179 t180 t181 t182 t183 t184 t185 ((rd_T38 t164 x7_1).f0) ((rd_T38 t164 x7_1).f1) ((rd_T38 t164 x7_1).f2) ((rd_T38 t164 x7_1).f3) ((rd_T38 t164 x7_1).f4) ((rd_T38 t164 x7_1).f5) ((rd_T38 t164 x7_1).f6.f0.f0) ((rd_T38 t164 x7_1).f6.f0.f1.f0) ((rd_T38 t164 x7_1).f6.f0.f1.f1) ((rd_T38 t164 x7_1).f6.f0.f2) ((rd_T38 t164 x7_1).f6.f1) ((rd_T38 t164 x7_1).f7.f0) ((rd_T38 t164 x7_1).f7.f1.f0) ((rd_T38 t164 x7_1).f7.f1.f1) ((rd_T38 t164 x7_1).f7.f2) ((rd_T38 t164 x7_1).f8) ((rd_T38 t164 x7_1).f9) ((rd_T38 t164 x7_1).f10) true _ A19.out).mono ?_
                    rintro e w23 ⟨rfl, hb⟩
                    have HS0_ := (hb.cell (World.block_lt_of_cell? _ _ (hHeld.1))).trans (hHeld.1)
                    have HS1_ := (hb.cell (World.block_lt_of_cell? _ _ (hHeld.2.1))).trans (hHeld.2.1)
                    have HS2_ := (hb.cell (World.block_lt_of_cell? _ _ (hHeld.2.2.1))).trans (hHeld.2.2.1)
                    have HS3_ := (hb.cell (World.block_lt_of_cell? _ _ (hHeld.2.2.2.1))).trans (hHeld.2.2.2.1)
                    have HS4_ := (hb.cell (World.block_lt_of_cell? _ _ (hHeld.2.2.2.2.1))).trans (hHeld.2.2.2.2.1)
                    have HS5_ := (hb.cell (World.block_lt_of_cell? _ _ (hHeld.2.2.2.2.2.1))).trans (hHeld.2.2.2.2.2.1)
                    have HS6_ := (hb.cell (World.block_lt_of_cell? _ _ (hHeld.2.2.2.2.2.2.1))).trans (hHeld.2.2.2.2.2.2.1)
                    have HS7_ := (hb.cell (World.block_lt_of_cell? _ _ (hHeld.2.2.2.2.2.2.2.1))).trans (hHeld.2.2.2.2.2.2.2.1)
                    have HS8_ := (hb.cell (World.block_lt_of_cell? _ _ (hHeld.2.2.2.2.2.2.2.2.1))).trans (hHeld.2.2.2.2.2.2.2.2.1)
                    have HS9_ := (hb.cell (World.block_lt_of_cell? _ _ (hHeld.2.2.2.2.2.2.2.2.2.1))).trans (hHeld.2.2.2.2.2.2.2.2.2.1)
                    have HS10_ := (hb.cell (World.block_lt_of_cell? _ _ (hHeld.2.2.2.2.2.2.2.2.2.2.1))).trans (hHeld.2.2.2.2.2.2.2.2.2.2.1)
                    have HS11_ := (hb.cell (World.block_lt_of_cell? _ _ (hHeld.2.2.2.2.2.2.2.2.2.2.2.1))).trans (hHeld.2.2.2.2.2.2.2.2.2.2.2.1)
                    have HS12_ := (hb.cell (World.block_lt_of_cell? _ _ (hHeld.2.2.2.2.2.2.2.2.2.2.2.2.1))).trans (hHeld.2.2.2.2.2.2.2.2.2.2.2.2.1)
                    have HS13_ := (hb.cell (World.block_lt_of_cell? _ _ (hHeld.2.2.2.2.2.2.2.2.2.2.2.2.2.1))).trans (hHeld.2.2.2.2.2.2.2.2.2.2.2.2.2.1)
                    have HS14_ := (hb.cell (World.block_lt_of_cell? _ _ (hHeld.2.2.2.2.2.2.2.2.2.2.2.2.2.2.1))).trans (hHeld.2.2.2.2.2.2.2.2.2.2.2.2.2.2.1)
                    have HS15_ := (hb.cell (World.block_lt_of_cell? _ _ (hHeld.2.2.2.2.2.2.2.2.2.2.2.2.2.2.2.1))).trans (hHeld.2.2.2.2.2.2.2.2.2.2.2.2.2.2.2.1)
                    have HS16_ := (hb.cell (World.block_lt_of_cell? _ _ (hHeld.2.2.2.2.2.2.2.2.2.2.2.2.2.2.2.2.1))).trans (hHeld.2.2.2.2.2.2.2.2.2.2.2.2.2.2.2.2.1)
                    have HS17_ := (hb.cell (World.block_lt_of_cell? _ _ (hHeld.2.2.2.2.2.2.2.2.2.2.2.2.2.2.2.2.2.1))).trans (hHeld.2.2.2.2.2.2.2.2.2.2.2.2.2.2.2.2.2.1)
                    have HS18_ := (hb.cell (World.block_lt_of_cell? _ _ (hHeld.2.2.2.2.2.2.2.2.2.2.2.2.2.2.2.2.2.2.1))).trans (hHeld.2.2.2.2.2.2.2.2.2.2.2.2.2.2.2.2.2.2.1)
                    have HS19_ := (hb.cell (World.block_lt_of_cell? _ _ (hHeld.2.2.2.2.2.2.2.2.2.2.2.2.2.2.2.2.2.2.2.1))).trans (hHeld.2.2.2.2.2.2.2.2.2.2.2.2.2.2.2.2.2.2.2.1)
                    have HS20_ := (hb.cell (World.block_lt_of_cell? _ _ (hHeld.2.2.2.2.2.2.2.2.2.2.2.2.2.2.2.2.2.2.2.2.1))).trans (hHeld.2.2.2.2.2.2.2.2.2.2.2.2.2.2.2.2.2.2.2.2.1)
                    have HS21_ := (hb.cell (World.block_lt_of_cell? _ _ (hHeld.2.2.2.2.2.2.2.2.2.2.2.2.2.2.2.2.2.2.2.2.2.1))).trans (hHeld.2.2.2.2.2.2.2.2.2.2.2.2.2.2.2.2.2.2.2.2.2.1)
                    have HS22_ := (hb.cell (World.block_lt_of_cell? _ _ (hHeld.2.2.2.2.2.2.2.2.2.2.2.2.2.2.2.2.2.2.2.2.2.2.1))).trans (hHeld.2.2.2.2.2.2.2.2.2.2.2.2.2.2.2.2.2.2.2.2.2.2.1)
                    have HS23_ := (hb.cell (World.block_lt_of_cell? _ _ (hHeld.2.2.2.2.2.2.2.2.2.2.2.2.2.2.2.2.2.2.2.2.2.2.2.1))).trans (hHeld.2.2.2.2.2.2.2.2.2.2.2.2.2.2.2.2.2.2.2.2.2.2.2.1)
                    have HS24_ := (hb.cell (World.block_lt_of_cell? _ _ (hHeld.2.2.2.2.2.2.2.2.2.2.2.2.2.2.2.2.2.2.2.2.2.2.2.2.1))).trans (hHeld.2.2.2.2.2.2.2.2.2.2.2.2.2.2.2.2.2.2.2.2.2.2.2.2.1)
                    have HS25_ := (hb.cell (World.block_lt_of_cell? _ _ (hHeld.2.2.2.2.2.2.2.2.2.2.2.2.2.2.2.2.2.2.2.2.2.2.2.2.2.1))).trans (hHeld.2.2.2.2.2.2.2.2.2.2.2.2.2.2.2.2.2.2.2.2.2.2.2.2.2.1)
                    have HS26_ := (hb.cell (World.block_lt_of_cell? _ _ (hHeld.2.2.2.2.2.2.2.2.2.2.2.2.2.2.2.2.2.2.2.2.2.2.2.2.2.2.1))).trans (hHeld.2.2.2.2.2.2.2.2.2.2.2.2.2.2.2.2.2.2.2.2.2.2.2.2.2.2.1)
                    have HS27_ := (hb.cell (World.block_lt_of_cell? _ _ (hHeld.2.2.2.2.2.2.2.2.2.2.2.2.2.2.2.2.2.2.2.2.2.2.2.2.2.2.2.1))).trans (hHeld.2.2.2.2.2.2.2.2.2.2.2.2.2.2.2.2.2.2.2.2.2.2.2.2.2.2.2.1)
                    have HS28_ := (hb.cell (World.block_lt_of_cell? _ _ (hHeld.2.2.2.2.2.2.2.2.2.2.2.2.2.2.2.2.2.2.2.2.2.2.2.2.2.2.2.2.1))).trans (hHeld.2.2.2.2.2.2.2.2.2.2.2.2.2.2.2.2.2.2.2.2.2.2.2.2.2.2.2.2.1)
                    have HS29_ := (hb.cell (World.block_lt_of_cell? _ _ (hHeld.2.2.2.2.2.2.2.2.2.2.2.2.2.2.2.2.2.2.2.2.2.2.2.2.2.2.2.2.2.1))).trans (hHeld.2.2.2.2.2.2.2.2.2.2.2.2.2.2.2.2.2.2.2.2.2.2.2.2.2.2.2.2.2.1)
                    have HS30_ := (hb.cell (World.block_lt_of_cell? _ _ (hHeld.2.2.2.2.2.2.2.2.2.2.2.2.2.2.2.2.2.2.2.2.2.2.2.2.2.2.2.2.2.2.1))).trans (hHeld.2.2.2.2.2.2.2.2.2.2.2.2.2.2.2.2.2.2.2.2.2.2.2.2.2.2.2.2.2.2.1)
                    have HS31_ := (hb.cell (World.block_lt_of_cell? _ _ (hHeld.2.2.2.2.2.2.2.2.2.2.2.2.2.2.2.2.2.2.2.2.2.2.2.2.2.2.2.2.2.2.2.1))).trans (hHeld.2.2.2.2.2.2.2.2.2.2.2.2.2.2.2.2.2.2.2.2.2.2.2.2.2.2.2.2.2.2.2.1)
                    have HS32_ := (hb.cell (World.block_lt_of_cell? _ _ (hHeld.2.2.2.2.2.2.2.2.2.2.2.2.2.2.2.2.2.2.2.2.2.2.2.2.2.2.2.2.2.2.2.2.1))).trans (hHeld.2.2.2.2.2.2.2.2.2.2.2.2.2.2.2.2.2.2.2.2.2.2.2.2.2.2.2.2.2.2.2.2.1)
                    have HS33_ := (hb.cell (World.block_lt_of_cell? _ _ (hHeld.2.2.2.2.2.2.2.2.2.2.2.2.2.2.2.2.2.2.2.2.2.2.2.2.2.2.2.2.2.2.2.2.2.1))).trans (hHeld.2.2.2.2.2.2.2.2.2.2.2.2.2.2.2.2.2.2.2.2.2.2.2.2.2.2.2.2.2.2.2.2.2.1)
                    have HS34_ := (hb.cell (World.block_lt_of_cell? _ _ (hHeld.2.2.2.2.2.2.2.2.2.2.2.2.2.2.2.2.2.2.2.2.2.2.2.2.2.2.2.2.2.2.2.2.2.2.1))).trans (hHeld.2.2.2.2.2.2.2.2.2.2.2.2.2.2.2.2.2.2.2.2.2.2.2.2.2.2.2.2.2.2.2.2.2.2.1)
                    have HS35_ := (hb.cell (World.block_lt_of_cell? _ _ (hHeld.2.2.2.2.2.2.2.2.2.2.2.2.2.2.2.2.2.2.2.2.2.2.2.2.2.2.2.2.2.2.2.2.2.2.2))).trans (hHeld.2.2.2.2.2.2.2.2.2.2.2.2.2.2.2.2.2.2.2.2.2.2.2.2.2.2.2.2.2.2.2.2.2.2.2)
                    refine ⟨_, rfl, ?_⟩
                    have n0_ := Aside0.mk (Kd.R_below (by (with_reducible repeat (first | apply Kd.R_alloc | apply Kd.R_drewN | apply Kd.R_drew)); exact HO_5.out) hb)
                    have n1_ := Aside0.mk (Kd.R_below (by (with_reducible repeat (first | apply Kd.R_alloc | apply Kd.R_drewN | apply Kd.R_drew)); exact HO_6.out) hb)
                    have n2_ := Aside0.mk (below_step (by repeat (first | (with_reducible first | exact HB.out | apply below_alloc | apply pw_below_drewN | apply below_drew1) | exact HB.out)) hb)
                    clear HO_5
                    clear HO_6
                    clear HB
                    have HO_5 := n0_
                    have HO_6 := n1_
                    have HB := n2_
                    clear n0_ n1_ n2_
                    (try clear hb)
                    (try clear hb2)
                    (try clear hk)
                    (try clear hi)
                    refine hK.out _ _ ⟨HS0_, HS1_, HS2_, HS3_, HS4_, HS5_, HS6_, HS7_, HS8_, HS9_, HS10_, HS11_, HS12_, HS13_, HS14_, HS15_, HS16_, HS17_, HS18_, HS19_, HS20_, HS21_, HS22_, HS23_, HS24_, HS25_, HS26_, HS27_, HS28_, HS29_, HS30_, HS31_, HS32_, HS33_, HS34_, HS35_⟩ (fun hHeld => ?_)
                    clear hK K
                    refine norm_ (a' := ?_) ?_ ?_
                    rotate_left
                    · show Act.put _ (some 39) _ = _
                      simp only [Act.put, List.setIfInBounds_toArray, List.set_cons_zero, List.set_cons_succ, i64_w, i32_w]
                      rfl
                    refine pure_ (i := 10) (N := some 40) (v := ?_) (a' := ?_) #[true, true, true, true, true, true, true, true, true, true, true] rfl rfl (any_of HT_.out (by kernel_rfl)) (fun _ _ _ h => h) (Or.inl ⟨by rfl, ?_⟩) ?_ ?_
                    rotate_left
                    · intro w'
                      go_simp
                      with_reducible rfl
                    rotate_left
                    · simp only [Act.put, List.setIfInBounds_toArray, List.set_cons_zero, List.set_cons_succ, i64_w, i32_w]
                      rfl
                    refine done_ (done_of HT_.out (by kernel_rfl)) ?_
                    try go_wp2
                    go_roundg k1
                    case measure => have := HK1.out; omega
                    case rel => exact ⟨(wrap64 (x7_1 + 1)), (by first | rfl | (simp; done) | (simp [*]; done)), H', ⟨by have := HK1.out; omega⟩, ⟨by (with_reducible repeat (first | apply Kd.R_alloc | apply Kd.R_drewN | apply Kd.R_drew)); exact HO_5.out⟩, ⟨by (with_reducible repeat (first | apply Kd.R_alloc | apply Kd.R_drewN | apply Kd.R_drew)); exact HO_6.out⟩, ⟨by repeat (first | (with_reducible first | exact HB.out | apply below_alloc | apply pw_below_drewN | apply below_drew1) | exact HB.out)⟩⟩
                  · replace c20 := Bool.eq_false_iff.mpr c20
                    subst c20
                    have H1 : (some false) = some true := by first | (rw [if_neg (show ¬ (false = true) by decide)] at H; done) | (rw [if_neg (show ¬ (false = true) by decide)] at H; exact H)
                    clear H
                    have H := H1
                    clear H1
                    exact absurd H (by simp)
                · rw [if_neg c18] at H
                  exact absurd H (by simp)
              · rw [if_neg c16] at H
                exact absurd H (by simp)
            · rw [if_neg c15] at H
              have c15b0 : decide (x7_1 < (t161.length : Int)) = false := decide_eq_false c15
              clear c15
              clear H
              go_wp2
              go_ret
              exact ⟨by first | rfl | (simp [errW_none, errW_some] <;> rfl) | (simp [*, errW_none, errW_some] <;> rfl), by repeat (first | (with_reducible first | exact HB.out | apply below_alloc | apply pw_below_drewN | apply below_drew1) | exact HB.out)⟩
      · rw [if_neg c9] at H
        have c9b0 : ((t161.length : Int) == (t164.length : Int)) = false := beq_eq_false_iff_ne.mpr c9
        have c9b1 : ((t161.length : Int) != (t164.length : Int)) = true := bne_iff_ne.mpr c9
        have c9b2 : (t161.length == t164.length) = false := by first | simpa using c9 | (simp at c9 ⊢; omega)
        exact absurd H (by simp)
  · replace c4 := Bool.eq_false_iff.mpr c4
    subst c4
    have H1 : (some false) = some true := by first | (rw [if_neg (show ¬ (false = true) by decide)] at H; done) | (rw [if_neg (show ¬ (false = true) by decide)] at H; exact H)
    clear H
    have H := H1
    clear H1
    exact absurd H (by simp)

/-- THE ONE PURE STATEMENT of consortlaw23_ChunkCuts: yours. -/
def consortlaw23_ChunkCuts.Pure : Prop := ∀ (a0 : Int) (a1 : ByteArray), (Lit.int .u64 a0).wf = true → a1.size ≤ 140737488351232 → ∃ k, consortlaw23_ChunkCuts.f k a0 a1 = some true
theorem consortlaw23_ChunkCuts.walk (P : consortlaw23_ChunkCuts.Pure) (a0 : Int) (a1 : ByteArray) (w : World) (w0 : (Lit.int .u64 a0).wf = true) (w1 : a1.size ≤ 140737488351232) :
    Calls Try.prog 3 #[.int .u64 a0, .string a1] w fun e w' => e = .returned (.bool true) ∧ Below w.heap.size w w' := by
  obtain ⟨k, h⟩ := P a0 a1 w0 w1
  refine (consortlaw23_ChunkCuts.calls k a0 a1 w h).mono ?_
  rintro e w' ⟨rfl, hd⟩
  exact ⟨rfl, hd⟩

end Go.Proofs.Ytgpldjckohlkfaa.P
