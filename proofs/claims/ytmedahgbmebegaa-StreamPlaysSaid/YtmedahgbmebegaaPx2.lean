-- Written by our own program (wip/pr) over the kit's print.py, with contracts of our own.
import Derived.Test.YtmedahgbmebegaaPx0
import Derived.Test.YtmedahgbmebegaaPx1
import Derived.Test.YtmedahgbmebegaaHandT
namespace Go.Proofs.Ytmedahgbmebegaa.P
open Go.Proofs.YtmedahgbmebegaaOv
open Go.RowKit Go.Proofs.YtmedahgbmebegaaW.PrintWords Go.Proofs.YtmedahgbmebegaaW.PrintLast Go.Proofs.YtmedahgbmebegaaW.PrintMore
attribute [local go_sem] max2_int min2_int max_two min_two max_three min_three max_four min_four   -- for this text's walks alone
set_option linter.unusedVariables false
set_option linter.unusedSimpArgs false
set_option linter.unusedSectionVars false
variable [TheW]

/-! ### consortref10_Take: function 12 -/
mutual
def consortref10_Take.j0 : Nat → Bool → Int → Int → List (S37) → Int → Int → Int → Int → OV → ByteArray → Option (Int × Int × (List (S37)) × (List (S37)) × Int)
  | 0, _, _, _, _, _, _, _, _, _, _ => none
  | k + 1, x24, x153000, x153001, x153002, x154000, x154001, x154002, x154003, x154004, x154005 => if x24 = true then (some (x153000, x153001, x153002, ([] : List (S37)), 12)) else (if (wrap64 (x154001)) > (wrap64 ((wrap64 (x153001)) + x153000)) then (some (x153000, x153001, x153002, ([] : List (S37)), 6)) else ((some (([] : List (S37)) : List (S37))).bind fun y156 => (if y156.length + x153002.length < 1954687338268 then ((some (y156 ++ x153002 : List (S37))).bind fun y159 => ((some (([(⟨x154000, x154001, x154002, x154003, x154004, x154005⟩ : S37)] : List (S37)) : List (S37))).bind fun y162 => (if y159.length + y162.length < 1954687338268 then (consortref10_Take.l0 k ([] : List (S37)) x153000 x153001 (y159 ++ y162)) else (none)))) else (none))))
def consortref10_Take.l0 : Nat → List (S37) → Int → Int → List (S37) → Option (Int × Int × (List (S37)) × (List (S37)) × Int)
  | 0, _, _, _, _ => none
  | k + 1, x7, x153000, x153001, x153002 => (consortref10_find.f k x153000 x153001 x153002 ((x153001 + 1) % 4294967296)).bind fun t168 => (if t168 < 0 then (some (x153000, x153001, x153002, x7, 0)) else (if 0 ≤ t168 then (if t168 < (x153002.length : Int) then ((some (([(⟨(rd_T37 x153002 t168).f0, (rd_T37 x153002 t168).f1, (rd_T37 x153002 t168).f2, (rd_T37 x153002 t168).f3, (rd_T37 x153002 t168).f4, (rd_T37 x153002 t168).f5⟩ : S37)] : List (S37)) : List (S37))).bind fun y170 => (if x7.length + y170.length < 1954687338268 then ((some (([] : List (S37)) : List (S37))).bind fun y176 => (if t168 ≤ (x153002.length : Int) then ((some (x153002.take (t168 : Int).toNat : List (S37))).bind fun y179 => (if y176.length + y179.length < 1954687338268 then ((some (y176 ++ y179 : List (S37))).bind fun y183 => (if 0 ≤ (wrap64 (t168 + 1)) then (if (wrap64 (t168 + 1)) ≤ (x153002.length : Int) then ((some (x153002.drop ((wrap64 (t168 + 1)) : Int).toNat : List (S37))).bind fun y186 => (if y183.length + y186.length < 1954687338268 then (consortref10_Take.l0 k (x7 ++ y170) x153000 ((x153001 + 1) % 4294967296) (y183 ++ y186)) else (none))) else (none)) else (none))) else (none))) else (none))) else (none))) else (none)) else (none)))
end
def consortref10_Take.f (k : Nat) (a0_0 : Int) (a0_1 : Int) (l0_2 : List (S37)) (a1_0 : Int) (a1_1 : Int) (a1_2 : Int) (a1_3 : Int) (a1_4 : OV) (a1_5 : ByteArray) : Option (Int × Int × (List (S37)) × (List (S37)) × Int) := if a1_1 = 0 then (some (a0_0, a0_1, l0_2, ([] : List (S37)), 1)) else (if a1_1 ≤ a0_1 then (consortref10_Take.j0 k true a0_0 a0_1 l0_2 a1_0 a1_1 a1_2 a1_3 a1_4 a1_5) else ((consortref10_find.f k a0_0 a0_1 l0_2 a1_1).bind fun t155 => (consortref10_Take.j0 k (decide (t155 ≥ 0)) a0_0 a0_1 l0_2 a1_0 a1_1 a1_2 a1_3 a1_4 a1_5)))
theorem consortref10_Take.mono_l : ∀ k, (∀ y0 y1 y2 y3 y4 y5 y6 y7 y8 y9, LeO (consortref10_Take.j0 k y0 y1 y2 y3 y4 y5 y6 y7 y8 y9) (consortref10_Take.j0 (k + 1) y0 y1 y2 y3 y4 y5 y6 y7 y8 y9)) ∧ (∀ y0 y1 y2 y3, LeO (consortref10_Take.l0 k y0 y1 y2 y3) (consortref10_Take.l0 (k + 1) y0 y1 y2 y3))
  | 0 => ⟨fun _ _ _ _ _ _ _ _ _ _ r h => by simp [consortref10_Take.j0] at h, fun _ _ _ _ r h => by simp [consortref10_Take.l0] at h⟩
  | k + 1 => by
    obtain ⟨ih0, ih1⟩ := consortref10_Take.mono_l k
    refine ⟨?_, ?_⟩
    · intro y0 y1 y2 y3 y4 y5 y6 y7 y8 y9
      unfold consortref10_Take.j0
      repeat' first
      | (with_reducible exact ih0 _ _ _ _ _ _ _ _ _ _)
      | (with_reducible exact ih1 _ _ _ _)
      | (with_reducible exact consortref10_find.mono _ _ _ _ _)
      | (with_reducible exact LeO.refl _)
      | (with_reducible exact LeO.none _)
      | (with_reducible refine LeO.ite ?_ ?_)
      | (with_reducible refine LeO.bind ?_ (fun _ => ?_))
      | exact ih0 _ _ _ _ _ _ _ _ _ _
      | exact ih1 _ _ _ _
      | exact consortref10_find.mono _ _ _ _ _
      | exact LeO.none _
      | refine LeO.ite ?_ ?_
      | refine LeO.bind ?_ (fun _ => ?_)
    · intro y0 y1 y2 y3
      unfold consortref10_Take.l0
      repeat' first
      | (with_reducible exact ih0 _ _ _ _ _ _ _ _ _ _)
      | (with_reducible exact ih1 _ _ _ _)
      | (with_reducible exact consortref10_find.mono _ _ _ _ _)
      | (with_reducible exact LeO.refl _)
      | (with_reducible exact LeO.none _)
      | (with_reducible refine LeO.ite ?_ ?_)
      | (with_reducible refine LeO.bind ?_ (fun _ => ?_))
      | exact ih0 _ _ _ _ _ _ _ _ _ _
      | exact ih1 _ _ _ _
      | exact consortref10_find.mono _ _ _ _ _
      | exact LeO.none _
      | refine LeO.ite ?_ ?_
      | refine LeO.bind ?_ (fun _ => ?_)
theorem consortref10_Take.mono : ∀ a0 a1 a2 a3 a4 a5 a6 a7 a8 k, LeO (consortref10_Take.f k a0 a1 a2 a3 a4 a5 a6 a7 a8) (consortref10_Take.f (k + 1) a0 a1 a2 a3 a4 a5 a6 a7 a8) := by
  intro a0 a1 a2 a3 a4 a5 a6 a7 a8 k
  obtain ⟨ih0, ih1⟩ := consortref10_Take.mono_l k
  unfold consortref10_Take.f
  repeat' first
      | (with_reducible exact ih0 _ _ _ _ _ _ _ _ _ _)
      | (with_reducible exact ih1 _ _ _ _)
      | (with_reducible exact consortref10_find.mono _ _ _ _ _)
      | (with_reducible exact LeO.refl _)
      | (with_reducible exact LeO.none _)
      | (with_reducible refine LeO.ite ?_ ?_)
      | (with_reducible refine LeO.bind ?_ (fun _ => ?_))
      | exact ih0 _ _ _ _ _ _ _ _ _ _
      | exact ih1 _ _ _ _
      | exact consortref10_find.mono _ _ _ _ _
      | exact LeO.none _
      | refine LeO.ite ?_ ?_
      | refine LeO.bind ?_ (fun _ => ?_)
def consortref10_Take.T7 : Bool × List (List Nat × List Nat) := (true, [([], []), ([], []), ([1], [1]), ([0, 2], [0, 2]), ([], []), ([4], [4]), ([3, 5, 3], [3, 5]), ([0, 1, 2, 3, 4, 5, 6], []), ([7, 6, 6, 0, 1, 2, 3, 4, 5, 6], [6, 7])])
def consortref10_Take.B7 : List Nat := [0, 0, 2, 7, 0, 16, 63, 127, 255]
theorem consortref10_Take.tab7 : rtab .any (opsOf Try.f12 7) = consortref10_Take.T7 := by kernel_rfl
theorem consortref10_Take.bits7 : waitsOk consortref10_Take.T7.2 consortref10_Take.B7 = true := by kernel_rfl
def consortref10_Take.T13 : Bool × List (List Nat × List Nat) := (true, [([], []), ([], []), ([1], [1]), ([], []), ([2, 3], [2, 3]), ([0, 4], [0, 4]), ([], []), ([6], [6]), ([], []), ([8], [8]), ([7, 9], [7, 9]), ([5, 10, 5], [5, 10]), ([0, 1, 2, 3, 4, 5, 6, 7, 8, 9, 10, 11], []), ([12, 11, 11, 0, 1, 2, 3, 4, 5, 6, 7, 8, 9, 10, 11], [11, 12])])
def consortref10_Take.B13 : List Nat := [0, 0, 2, 0, 14, 31, 0, 64, 0, 256, 960, 2047, 4095, 8191]
theorem consortref10_Take.tab13 : rtab .any (opsOf Try.f12 13) = consortref10_Take.T13 := by kernel_rfl
theorem consortref10_Take.bits13 : waitsOk consortref10_Take.T13.2 consortref10_Take.B13 = true := by kernel_rfl
set_option maxHeartbeats 8000000 in
set_option maxRecDepth 100000 in
theorem consortref10_Take.calls (k : Nat) (a0_0 : Int) (a0_1 : Int) (P0_2_ : Nat → Prop) (u9000_ : Value) (l0_2 : List (S37)) (a1_0 : Int) (a1_1 : Int) (a1_2 : Int) (a1_3 : Int) (a1_4 : OV) (a1_5 : ByteArray) (r1 : Int) (r2 : Int) (r3 : List (S37)) (r4 : List (S37)) (r5 : Int) (w0 w : World) (hB : Below w0.heap.size w0 w) (ho0_2 : Kd.R k37 37 w w0.heap.size P0_2_ u9000_ l0_2) (h : consortref10_Take.f k a0_0 a0_1 l0_2 a1_0 a1_1 a1_2 a1_3 a1_4 a1_5 = some (r1, r2, r3, r4, r5)) :
    Calls Try.prog 12 #[.agg #[.int .i64 a0_0, .int .u32 a0_1, u9000_], .agg #[.int .i64 a1_0, .int .u32 a1_1, .int .u64 a1_2, .int .i64 a1_3, .slice a1_4.A a1_4.n a1_4.c, .string a1_5]] w fun e w' => ∃ v2_ v3_ : Value, e = .returned (.tuple #[.agg #[.int .i64 r1, .int .u32 r2, v2_], v3_, .int .i64 r5]) ∧ Kd.R k37 37 w' w0.heap.size (fun k_ => (P0_2_ k_ ∨ w.heap.size ≤ k_) ∧ some k_ ≠ (v3_ : Value).ownBlock) v2_ r3 ∧ Kd.R k37 37 w' w0.heap.size (fun k_ => (P0_2_ k_ ∨ w.heap.size ≤ k_) ∧ some k_ ≠ (v2_ : Value).ownBlock) v3_ r4 ∧ Below w0.heap.size w0 w' ∧ Kept w w' (fun k_ => P0_2_ k_) := by
  have hu29 := Try.underlying29
  have hu37 := Try.underlying37
  have HO0_2 := Aside0.mk (show Kd.R k37 37 w w0.heap.size (fun k_ => (P0_2_ k_ ∨ w.heap.size ≤ k_)) u9000_ l0_2 from Kd.R_mono ho0_2 (fun k_ hk => (.inl hk)))
  have HK := Aside0.mk (Kept.refl w (fun k_ => P0_2_ k_))
  have HW0 := Aside0.mk hB.size
  have HB := Aside0.mk hB
  clear hB
  have H : (if a1_1 = 0 then (some (a0_0, a0_1, l0_2, ([] : List (S37)), 1)) else (if a1_1 ≤ a0_1 then (consortref10_Take.j0 k true a0_0 a0_1 l0_2 a1_0 a1_1 a1_2 a1_3 a1_4 a1_5) else ((consortref10_find.f k a0_0 a0_1 l0_2 a1_1).bind fun t155 => (consortref10_Take.j0 k (decide (t155 ≥ 0)) a0_0 a0_1 l0_2 a1_0 a1_1 a1_2 a1_3 a1_4 a1_5)))) = some (r1, r2, r3, r4, r5) := h
  clear h
  by_cases c3 : a1_1 = 0
  · rw [if_pos c3] at H
    have c3b0 : (a1_1 == 0) = true := beq_iff_eq.mpr c3
    have c3b1 : (a1_1 != 0) = false := bne_eq_false_iff_eq.mpr c3
    clear c3
    simp only [Option.some.injEq, Prod.mk.injEq] at H
    obtain ⟨rfl, rfl, rfl, rfl, rfl⟩ := H
    obtain ⟨Ao4, co4, eo4⟩ := Kd.R_slice HO0_2.out
    subst eo4
    go_enter Try.func12, Try.ntmps12
    go_wp2_with (first | ((with_reducible refine gate_dst (N := 2) rfl ?_); refine box_event ?hg (N := 2) ?hd (cs := #[.int .i64 a0_0, .int .u32 a0_1, .slice Ao4 l0_2.length co4]) (t := 29) ?hr ?_; (case hd => rfl); (case hg => rfl); (case hr => first | (go_simp; done) | (go_simp; rfl)); intro gb152 hg w5 hbox hb; have n0_ := Aside0.mk (Kd.R_below (by (with_reducible repeat (first | apply Kd.R_alloc | apply Kd.R_drewN | apply Kd.R_drew)); exact HO0_2.out) hb); have n1_ := Aside0.mk (Kept.below (S := (fun k_ => P0_2_ k_)) (by repeat (first | (with_reducible first | exact HK.out | apply Kept.alloc | apply Kept.drewN | apply Kept.drew) | exact HK.out)) hb); have n2_ := Aside0.mk (below_step (by repeat (first | (with_reducible first | exact HB.out | apply below_alloc | apply pw_below_drewN | apply below_drew1) | exact HB.out)) hb); have n3_ := Aside0.mk (hbox); have n4_ := Aside0.mk ((by rw [hg]; exact (by first | exact HK.out.1 | exact (show Kept w _ (fun k_ => P0_2_ k_) from by repeat (first | (with_reducible first | exact HK.out | apply Kept.alloc | apply Kept.drewN | apply Kept.drew) | exact HK.out)).1) : w.heap.size ≤ gb152)); have n5_ := Aside0.mk ((by rw [hg]; exact (below_size (by repeat (first | (with_reducible first | exact HB.out | apply below_alloc | apply pw_below_drewN | apply below_drew1) | exact HB.out))) : w0.heap.size ≤ gb152)); clear HO0_2; clear HK; clear HB; have HO0_2 := n0_; have HK := n1_; have HB := n2_; have BK152 := n3_; have GW152 := n4_; have GE152 := n5_; clear n0_ n1_ n2_ n3_ n4_ n5_; clear hb hbox hg) | ((with_reducible refine gate_dst (N := 3) rfl ?_); refine box_event ?hg (N := 3) ?hd (cs := #[.int .i64 a1_0, .int .u32 a1_1, .int .u64 a1_2, .int .i64 a1_3, .slice a1_4.A a1_4.n a1_4.c, .string a1_5]) (t := 37) ?hr ?_; (case hd => rfl); (case hg => rfl); (case hr => first | (go_simp; done) | (go_simp; rfl)); intro gb153 hg w6 hbox hb; have n0_ := Aside0.mk (Kd.R_below (Kd.R_elderB (by (with_reducible repeat (first | apply Kd.R_alloc | apply Kd.R_drewN | apply Kd.R_drew)); exact HO0_2.out) gb153 (Nat.le_of_eq hg.symm)) hb); have n1_ := Aside0.mk (blk_below (g := gb152) (o := .cells #[.int .i64 a0_0, .int .u32 a0_1, .slice Ao4 l0_2.length co4] 29 (0, 0)) (by (with_reducible repeat (first | refine blk_drewN ?_ _ | refine blk_drew ?_ | refine blk_alloc ?_ _)); exact BK152.out) hb); have n2_ := Aside0.mk (Kept.below (S := (fun k_ => P0_2_ k_)) (by repeat (first | (with_reducible first | exact HK.out | apply Kept.alloc | apply Kept.drewN | apply Kept.drew | refine Kept.setCell ?_ (.inr GW152.out) _) | exact HK.out)) hb); have n3_ := Aside0.mk (below_step (by repeat (first | (with_reducible first | exact HB.out | apply below_alloc | apply pw_below_drewN | apply below_drew1 | refine below_set ?_ GE152.out) | exact HB.out)) hb); have n4_ := Aside0.mk (hbox); have n5_ := Aside0.mk ((by rw [hg]; exact (by first | exact HK.out.1 | exact (show Kept w _ (fun k_ => P0_2_ k_) from by repeat (first | (with_reducible first | exact HK.out | apply Kept.alloc | apply Kept.drewN | apply Kept.drew | refine Kept.setCell ?_ (.inr GW152.out) _) | exact HK.out)).1) : w.heap.size ≤ gb153)); have n6_ := Aside0.mk ((by rw [hg]; exact (below_size (by repeat (first | (with_reducible first | exact HB.out | apply below_alloc | apply pw_below_drewN | apply below_drew1 | refine below_set ?_ GE152.out) | exact HB.out))) : w0.heap.size ≤ gb153)); have n7_ := Aside0.mk ((by rw [hg]; exact Nat.ne_of_lt (blk_lt (g := gb152) (o := .cells #[.int .i64 a0_0, .int .u32 a0_1, .slice Ao4 l0_2.length co4] 29 (0, 0)) (by (with_reducible repeat (first | refine blk_drewN ?_ _ | refine blk_drew ?_ | refine blk_alloc ?_ _)); exact BK152.out)) : gb152 ≠ gb153)); have n8_ := Aside0.mk ((by rw [hg]; exact Nat.ne_of_gt (blk_lt (g := gb152) (o := .cells #[.int .i64 a0_0, .int .u32 a0_1, .slice Ao4 l0_2.length co4] 29 (0, 0)) (by (with_reducible repeat (first | refine blk_drewN ?_ _ | refine blk_drew ?_ | refine blk_alloc ?_ _)); exact BK152.out)) : gb153 ≠ gb152)); clear HO0_2; clear BK152; clear HK; clear HB; have HO0_2 := n0_; have BK152 := n1_; have HK := n2_; have HB := n3_; have BK153 := n4_; have GW153 := n5_; have GE153 := n6_; have NB152_153 := n7_; have NB153_152 := n8_; clear n0_ n1_ n2_ n3_ n4_ n5_ n6_ n7_ n8_; clear hb hbox hg) | ((with_reducible refine gate_dst (N := 4) rfl ?_); refine box_event ?hg (N := 4) ?hd (cs := #[.int .i64 0, .int .u32 0, .slice none 0 0]) (t := 29) ?hr ?_; (case hd => rfl); (case hg => rfl); (case hr => first | (go_simp; done) | (go_simp; rfl)); intro gb154 hg w7 hbox hb; have n0_ := Aside0.mk (Kd.R_below (by (with_reducible repeat (first | apply Kd.R_alloc | apply Kd.R_drewN | apply Kd.R_drew)); exact HO0_2.out) hb); have n1_ := Aside0.mk (blk_below (g := gb152) (o := .cells #[.int .i64 a0_0, .int .u32 a0_1, .slice Ao4 l0_2.length co4] 29 (0, 0)) (by (with_reducible repeat (first | refine blk_drewN ?_ _ | refine blk_drew ?_ | refine blk_alloc ?_ _)); exact BK152.out) hb); have n2_ := Aside0.mk (blk_below (g := gb153) (o := .cells #[.int .i64 a1_0, .int .u32 a1_1, .int .u64 a1_2, .int .i64 a1_3, .slice a1_4.A a1_4.n a1_4.c, .string a1_5] 37 (0, 0)) (by (with_reducible repeat (first | refine blk_drewN ?_ _ | refine blk_drew ?_ | refine blk_alloc ?_ _)); exact BK153.out) hb); have n3_ := Aside0.mk (Kept.below (S := (fun k_ => P0_2_ k_)) (by repeat (first | (with_reducible first | exact HK.out | apply Kept.alloc | apply Kept.drewN | apply Kept.drew | refine Kept.setCell ?_ (.inr GW152.out) _ | refine Kept.setCell ?_ (.inr GW153.out) _) | exact HK.out)) hb); have n4_ := Aside0.mk (below_step (by repeat (first | (with_reducible first | exact HB.out | apply below_alloc | apply pw_below_drewN | apply below_drew1 | refine below_set ?_ GE152.out | refine below_set ?_ GE153.out) | exact HB.out)) hb); have n5_ := Aside0.mk (hbox); have n6_ := Aside0.mk ((by rw [hg]; exact (by first | exact HK.out.1 | exact (show Kept w _ (fun k_ => P0_2_ k_) from by repeat (first | (with_reducible first | exact HK.out | apply Kept.alloc | apply Kept.drewN | apply Kept.drew | refine Kept.setCell ?_ (.inr GW152.out) _ | refine Kept.setCell ?_ (.inr GW153.out) _) | exact HK.out)).1) : w.heap.size ≤ gb154)); have n7_ := Aside0.mk ((by rw [hg]; exact (below_size (by repeat (first | (with_reducible first | exact HB.out | apply below_alloc | apply pw_below_drewN | apply below_drew1 | refine below_set ?_ GE152.out | refine below_set ?_ GE153.out) | exact HB.out))) : w0.heap.size ≤ gb154)); have n8_ := Aside0.mk ((by rw [hg]; exact Nat.ne_of_lt (blk_lt (g := gb152) (o := .cells #[.int .i64 a0_0, .int .u32 a0_1, .slice Ao4 l0_2.length co4] 29 (0, 0)) (by (with_reducible repeat (first | refine blk_drewN ?_ _ | refine blk_drew ?_ | refine blk_alloc ?_ _)); exact BK152.out)) : gb152 ≠ gb154)); have n9_ := Aside0.mk ((by rw [hg]; exact Nat.ne_of_gt (blk_lt (g := gb152) (o := .cells #[.int .i64 a0_0, .int .u32 a0_1, .slice Ao4 l0_2.length co4] 29 (0, 0)) (by (with_reducible repeat (first | refine blk_drewN ?_ _ | refine blk_drew ?_ | refine blk_alloc ?_ _)); exact BK152.out)) : gb154 ≠ gb152)); have n10_ := Aside0.mk ((by rw [hg]; exact Nat.ne_of_lt (blk_lt (g := gb153) (o := .cells #[.int .i64 a1_0, .int .u32 a1_1, .int .u64 a1_2, .int .i64 a1_3, .slice a1_4.A a1_4.n a1_4.c, .string a1_5] 37 (0, 0)) (by (with_reducible repeat (first | refine blk_drewN ?_ _ | refine blk_drew ?_ | refine blk_alloc ?_ _)); exact BK153.out)) : gb153 ≠ gb154)); have n11_ := Aside0.mk ((by rw [hg]; exact Nat.ne_of_gt (blk_lt (g := gb153) (o := .cells #[.int .i64 a1_0, .int .u32 a1_1, .int .u64 a1_2, .int .i64 a1_3, .slice a1_4.A a1_4.n a1_4.c, .string a1_5] 37 (0, 0)) (by (with_reducible repeat (first | refine blk_drewN ?_ _ | refine blk_drew ?_ | refine blk_alloc ?_ _)); exact BK153.out)) : gb154 ≠ gb153)); clear HO0_2; clear BK152; clear BK153; clear HK; clear HB; have HO0_2 := n0_; have BK152 := n1_; have BK153 := n2_; have HK := n3_; have HB := n4_; have BK154 := n5_; have GW154 := n6_; have GE154 := n7_; have NB152_154 := n8_; have NB154_152 := n9_; have NB153_154 := n10_; have NB154_153 := n11_; clear n0_ n1_ n2_ n3_ n4_ n5_ n6_ n7_ n8_ n9_ n10_ n11_; clear hb hbox hg; have hnb8 := NB153_152.out; have hnc8 := NB152_153.out; have hnb9 := NB153_154.out; have hnc9 := NB154_153.out; have hcz10_0 : w7.cell? ⟨gb153, 0, none⟩ = some (.int .i64 a1_0) := (blk_cell BK153.out 0).trans rfl; have hcz10_1 : w7.cell? ⟨gb153, 1, none⟩ = some (.int .u32 a1_1) := (blk_cell BK153.out 1).trans rfl; have hcz10_2 : w7.cell? ⟨gb153, 2, none⟩ = some (.int .u64 a1_2) := (blk_cell BK153.out 2).trans rfl; have hcz10_3 : w7.cell? ⟨gb153, 3, none⟩ = some (.int .i64 a1_3) := (blk_cell BK153.out 3).trans rfl; have hcz10_4 : w7.cell? ⟨gb153, 4, none⟩ = some (.slice a1_4.A a1_4.n a1_4.c) := (blk_cell BK153.out 4).trans rfl; have hcz10_5 : w7.cell? ⟨gb153, 5, none⟩ = some (.string a1_5) := (blk_cell BK153.out 5).trans rfl; have hfz10_0 := blk_frozen BK153.out 0; have hfz10_1 := blk_frozen BK153.out 1; have hfz10_2 := blk_frozen BK153.out 2; have hfz10_3 := blk_frozen BK153.out 3; have hfz10_4 := blk_frozen BK153.out 4; have hfz10_5 := blk_frozen BK153.out 5; have hnb11 := NB152_154.out; have hnc11 := NB154_152.out; have hcz12_0 : w7.cell? ⟨gb152, 0, none⟩ = some (.int .i64 a0_0) := (blk_cell BK152.out 0).trans rfl; have hcz12_1 : w7.cell? ⟨gb152, 1, none⟩ = some (.int .u32 a0_1) := (blk_cell BK152.out 1).trans rfl; have hcz12_2 : w7.cell? ⟨gb152, 2, none⟩ = some (.slice Ao4 l0_2.length co4) := (blk_cell BK152.out 2).trans rfl; have hfz12_0 := blk_frozen BK152.out 0; have hfz12_1 := blk_frozen BK152.out 1; have hfz12_2 := blk_frozen BK152.out 2; have hcz13_0 : w7.cell? ⟨gb154, 0, none⟩ = some (.int .i64 0) := (blk_cell BK154.out 0).trans rfl; have hcz13_1 : w7.cell? ⟨gb154, 1, none⟩ = some (.int .u32 0) := (blk_cell BK154.out 1).trans rfl; have hcz13_2 : w7.cell? ⟨gb154, 2, none⟩ = some (.slice none 0 0) := (blk_cell BK154.out 2).trans rfl; have hfz13_0 := blk_frozen BK154.out 0; have hfz13_1 := blk_frozen BK154.out 1; have hfz13_2 := blk_frozen BK154.out 2))
    refine bodyPost_ret (results_ctt rfl _ _ gb154 29 #[.int .i64 a0_0, .int .u32 a0_1, .slice Ao4 l0_2.length co4] (0, 0) _ rfl (by (with_reducible repeat (first | refine blk_drewN ?_ _ | refine blk_drew ?_ | refine blk_alloc ?_ _)); refine blk_put (cs := #[.int .i64 a0_0, .int .u32 a0_1, .slice none 0 0]) ?_ 2 _ rfl; (with_reducible repeat (first | refine blk_drewN ?_ _ | refine blk_drew ?_ | refine blk_alloc ?_ _)); refine blk_put (cs := #[.int .i64 a0_0, .int .u32 0, .slice none 0 0]) ?_ 1 _ rfl; (with_reducible repeat (first | refine blk_drewN ?_ _ | refine blk_drew ?_ | refine blk_alloc ?_ _)); refine blk_put (cs := #[.int .i64 0, .int .u32 0, .slice none 0 0]) ?_ 0 _ rfl; (with_reducible repeat (first | refine blk_drewN ?_ _ | refine blk_drew ?_ | refine blk_alloc ?_ _)); exact BK154.out) Try.underlying29 rfl (by kernel_rfl)) rfl ?_
    exact ⟨_, _, by first | rfl | (simp [errW_none, errW_some] <;> rfl) | (simp [*, errW_none, errW_some] <;> rfl), by (with_reducible repeat (first | apply Kd.R_alloc | apply Kd.R_drewN | apply Kd.R_drew)); exact Kd.R_mono (Kd.R_far (p := ⟨gb154, 2, none⟩) (Kd.R_far (p := ⟨gb154, 1, none⟩) (Kd.R_far (p := ⟨gb154, 0, none⟩) (Kd.R_types HO0_2.out BK154.out (by first | decide | exact Nat.succ_pos _ | exact ne_of_E rfl (by decide))) (fun _ hk => hk.2) (.int .i64 a0_0)) (fun _ hk => hk.2) (.int .u32 a0_1)) (fun _ hk => hk.2) (.slice Ao4 l0_2.length co4)) (fun _ hk => ⟨hk.1.1, (by simp [Value.ownBlock])⟩), by first | exact Kd.R_nil _ _ _ _ _ | exact Kd.N_nil _ _ _ _ _ | exact Kd.V_nil _ _ _ _ _ | exact Kd.Q_nil _ _ _ _ _ | exact Kd.S_nil _ _ _ _ _, by repeat (first | (with_reducible first | exact HB.out | apply below_alloc | apply pw_below_drewN | apply below_drew1 | refine below_set ?_ GE152.out | refine below_set ?_ GE153.out | refine below_set ?_ GE154.out) | exact HB.out), by repeat (first | (with_reducible first | exact HK.out | apply Kept.alloc | apply Kept.drewN | apply Kept.drew | refine Kept.setCell ?_ (.inr GW152.out) _ | refine Kept.setCell ?_ (.inr GW153.out) _ | refine Kept.setCell ?_ (.inr GW154.out) _) | exact HK.out)⟩
  · rw [if_neg c3] at H
    have c3b0 : (a1_1 == 0) = false := beq_eq_false_iff_ne.mpr c3
    have c3b1 : (a1_1 != 0) = true := bne_iff_ne.mpr c3
    have HC14 := Aside0.mk H
    clear H
    obtain ⟨Ao15, co15, eo15⟩ := Kd.R_slice HO0_2.out
    subst eo15
    go_enter Try.func12, Try.ntmps12
    go_upto_region 3 with (first | ((with_reducible refine gate_dst (N := 2) rfl ?_); refine box_event ?hg (N := 2) ?hd (cs := #[.int .i64 a0_0, .int .u32 a0_1, .slice Ao15 l0_2.length co15]) (t := 29) ?hr ?_; (case hd => rfl); (case hg => rfl); (case hr => first | (go_simp; done) | (go_simp; rfl)); intro gb152 hg w16 hbox hb; have n0_ := Aside0.mk (Kd.R_below (by (with_reducible repeat (first | apply Kd.R_alloc | apply Kd.R_drewN | apply Kd.R_drew)); exact HO0_2.out) hb); have n1_ := Aside0.mk (Kept.below (S := (fun k_ => P0_2_ k_)) (by repeat (first | (with_reducible first | exact HK.out | apply Kept.alloc | apply Kept.drewN | apply Kept.drew) | exact HK.out)) hb); have n2_ := Aside0.mk (below_step (by repeat (first | (with_reducible first | exact HB.out | apply below_alloc | apply pw_below_drewN | apply below_drew1) | exact HB.out)) hb); have n3_ := Aside0.mk (hbox); have n4_ := Aside0.mk ((by rw [hg]; exact (by first | exact HK.out.1 | exact (show Kept w _ (fun k_ => P0_2_ k_) from by repeat (first | (with_reducible first | exact HK.out | apply Kept.alloc | apply Kept.drewN | apply Kept.drew) | exact HK.out)).1) : w.heap.size ≤ gb152)); have n5_ := Aside0.mk ((by rw [hg]; exact (below_size (by repeat (first | (with_reducible first | exact HB.out | apply below_alloc | apply pw_below_drewN | apply below_drew1) | exact HB.out))) : w0.heap.size ≤ gb152)); clear HO0_2; clear HK; clear HB; have HO0_2 := n0_; have HK := n1_; have HB := n2_; have BK152 := n3_; have GW152 := n4_; have GE152 := n5_; clear n0_ n1_ n2_ n3_ n4_ n5_; clear hb hbox hg) | ((with_reducible refine gate_dst (N := 3) rfl ?_); refine box_event ?hg (N := 3) ?hd (cs := #[.int .i64 a1_0, .int .u32 a1_1, .int .u64 a1_2, .int .i64 a1_3, .slice a1_4.A a1_4.n a1_4.c, .string a1_5]) (t := 37) ?hr ?_; (case hd => rfl); (case hg => rfl); (case hr => first | (go_simp; done) | (go_simp; rfl)); intro gb153 hg w17 hbox hb; have n0_ := Aside0.mk (Kd.R_below (Kd.R_elderB (by (with_reducible repeat (first | apply Kd.R_alloc | apply Kd.R_drewN | apply Kd.R_drew)); exact HO0_2.out) gb153 (Nat.le_of_eq hg.symm)) hb); have n1_ := Aside0.mk (blk_below (g := gb152) (o := .cells #[.int .i64 a0_0, .int .u32 a0_1, .slice Ao15 l0_2.length co15] 29 (0, 0)) (by (with_reducible repeat (first | refine blk_drewN ?_ _ | refine blk_drew ?_ | refine blk_alloc ?_ _)); exact BK152.out) hb); have n2_ := Aside0.mk (Kept.below (S := (fun k_ => P0_2_ k_)) (by repeat (first | (with_reducible first | exact HK.out | apply Kept.alloc | apply Kept.drewN | apply Kept.drew | refine Kept.setCell ?_ (.inr GW152.out) _) | exact HK.out)) hb); have n3_ := Aside0.mk (below_step (by repeat (first | (with_reducible first | exact HB.out | apply below_alloc | apply pw_below_drewN | apply below_drew1 | refine below_set ?_ GE152.out) | exact HB.out)) hb); have n4_ := Aside0.mk (hbox); have n5_ := Aside0.mk ((by rw [hg]; exact (by first | exact HK.out.1 | exact (show Kept w _ (fun k_ => P0_2_ k_) from by repeat (first | (with_reducible first | exact HK.out | apply Kept.alloc | apply Kept.drewN | apply Kept.drew | refine Kept.setCell ?_ (.inr GW152.out) _) | exact HK.out)).1) : w.heap.size ≤ gb153)); have n6_ := Aside0.mk ((by rw [hg]; exact (below_size (by repeat (first | (with_reducible first | exact HB.out | apply below_alloc | apply pw_below_drewN | apply below_drew1 | refine below_set ?_ GE152.out) | exact HB.out))) : w0.heap.size ≤ gb153)); have n7_ := Aside0.mk ((by rw [hg]; exact Nat.ne_of_lt (blk_lt (g := gb152) (o := .cells #[.int .i64 a0_0, .int .u32 a0_1, .slice Ao15 l0_2.length co15] 29 (0, 0)) (by (with_reducible repeat (first | refine blk_drewN ?_ _ | refine blk_drew ?_ | refine blk_alloc ?_ _)); exact BK152.out)) : gb152 ≠ gb153)); have n8_ := Aside0.mk ((by rw [hg]; exact Nat.ne_of_gt (blk_lt (g := gb152) (o := .cells #[.int .i64 a0_0, .int .u32 a0_1, .slice Ao15 l0_2.length co15] 29 (0, 0)) (by (with_reducible repeat (first | refine blk_drewN ?_ _ | refine blk_drew ?_ | refine blk_alloc ?_ _)); exact BK152.out)) : gb153 ≠ gb152)); clear HO0_2; clear BK152; clear HK; clear HB; have HO0_2 := n0_; have BK152 := n1_; have HK := n2_; have HB := n3_; have BK153 := n4_; have GW153 := n5_; have GE153 := n6_; have NB152_153 := n7_; have NB153_152 := n8_; clear n0_ n1_ n2_ n3_ n4_ n5_ n6_ n7_ n8_; clear hb hbox hg) | ((with_reducible refine gate_dst (N := 4) rfl ?_); refine box_event ?hg (N := 4) ?hd (cs := #[.int .i64 0, .int .u32 0, .slice none 0 0]) (t := 29) ?hr ?_; (case hd => rfl); (case hg => rfl); (case hr => first | (go_simp; done) | (go_simp; rfl)); intro gb154 hg w18 hbox hb; have n0_ := Aside0.mk (Kd.R_below (by (with_reducible repeat (first | apply Kd.R_alloc | apply Kd.R_drewN | apply Kd.R_drew)); exact HO0_2.out) hb); have n1_ := Aside0.mk (blk_below (g := gb152) (o := .cells #[.int .i64 a0_0, .int .u32 a0_1, .slice Ao15 l0_2.length co15] 29 (0, 0)) (by (with_reducible repeat (first | refine blk_drewN ?_ _ | refine blk_drew ?_ | refine blk_alloc ?_ _)); exact BK152.out) hb); have n2_ := Aside0.mk (blk_below (g := gb153) (o := .cells #[.int .i64 a1_0, .int .u32 a1_1, .int .u64 a1_2, .int .i64 a1_3, .slice a1_4.A a1_4.n a1_4.c, .string a1_5] 37 (0, 0)) (by (with_reducible repeat (first | refine blk_drewN ?_ _ | refine blk_drew ?_ | refine blk_alloc ?_ _)); exact BK153.out) hb); have n3_ := Aside0.mk (Kept.below (S := (fun k_ => P0_2_ k_)) (by repeat (first | (with_reducible first | exact HK.out | apply Kept.alloc | apply Kept.drewN | apply Kept.drew | refine Kept.setCell ?_ (.inr GW152.out) _ | refine Kept.setCell ?_ (.inr GW153.out) _) | exact HK.out)) hb); have n4_ := Aside0.mk (below_step (by repeat (first | (with_reducible first | exact HB.out | apply below_alloc | apply pw_below_drewN | apply below_drew1 | refine below_set ?_ GE152.out | refine below_set ?_ GE153.out) | exact HB.out)) hb); have n5_ := Aside0.mk (hbox); have n6_ := Aside0.mk ((by rw [hg]; exact (by first | exact HK.out.1 | exact (show Kept w _ (fun k_ => P0_2_ k_) from by repeat (first | (with_reducible first | exact HK.out | apply Kept.alloc | apply Kept.drewN | apply Kept.drew | refine Kept.setCell ?_ (.inr GW152.out) _ | refine Kept.setCell ?_ (.inr GW153.out) _) | exact HK.out)).1) : w.heap.size ≤ gb154)); have n7_ := Aside0.mk ((by rw [hg]; exact (below_size (by repeat (first | (with_reducible first | exact HB.out | apply below_alloc | apply pw_below_drewN | apply below_drew1 | refine below_set ?_ GE152.out | refine below_set ?_ GE153.out) | exact HB.out))) : w0.heap.size ≤ gb154)); have n8_ := Aside0.mk ((by rw [hg]; exact Nat.ne_of_lt (blk_lt (g := gb152) (o := .cells #[.int .i64 a0_0, .int .u32 a0_1, .slice Ao15 l0_2.length co15] 29 (0, 0)) (by (with_reducible repeat (first | refine blk_drewN ?_ _ | refine blk_drew ?_ | refine blk_alloc ?_ _)); exact BK152.out)) : gb152 ≠ gb154)); have n9_ := Aside0.mk ((by rw [hg]; exact Nat.ne_of_gt (blk_lt (g := gb152) (o := .cells #[.int .i64 a0_0, .int .u32 a0_1, .slice Ao15 l0_2.length co15] 29 (0, 0)) (by (with_reducible repeat (first | refine blk_drewN ?_ _ | refine blk_drew ?_ | refine blk_alloc ?_ _)); exact BK152.out)) : gb154 ≠ gb152)); have n10_ := Aside0.mk ((by rw [hg]; exact Nat.ne_of_lt (blk_lt (g := gb153) (o := .cells #[.int .i64 a1_0, .int .u32 a1_1, .int .u64 a1_2, .int .i64 a1_3, .slice a1_4.A a1_4.n a1_4.c, .string a1_5] 37 (0, 0)) (by (with_reducible repeat (first | refine blk_drewN ?_ _ | refine blk_drew ?_ | refine blk_alloc ?_ _)); exact BK153.out)) : gb153 ≠ gb154)); have n11_ := Aside0.mk ((by rw [hg]; exact Nat.ne_of_gt (blk_lt (g := gb153) (o := .cells #[.int .i64 a1_0, .int .u32 a1_1, .int .u64 a1_2, .int .i64 a1_3, .slice a1_4.A a1_4.n a1_4.c, .string a1_5] 37 (0, 0)) (by (with_reducible repeat (first | refine blk_drewN ?_ _ | refine blk_drew ?_ | refine blk_alloc ?_ _)); exact BK153.out)) : gb154 ≠ gb153)); clear HO0_2; clear BK152; clear BK153; clear HK; clear HB; have HO0_2 := n0_; have BK152 := n1_; have BK153 := n2_; have HK := n3_; have HB := n4_; have BK154 := n5_; have GW154 := n6_; have GE154 := n7_; have NB152_154 := n8_; have NB154_152 := n9_; have NB153_154 := n10_; have NB154_153 := n11_; clear n0_ n1_ n2_ n3_ n4_ n5_ n6_ n7_ n8_ n9_ n10_ n11_; clear hb hbox hg; have hnb19 := NB153_152.out; have hnc19 := NB152_153.out; have hnb20 := NB153_154.out; have hnc20 := NB154_153.out; have hcz21_0 : w18.cell? ⟨gb153, 0, none⟩ = some (.int .i64 a1_0) := (blk_cell BK153.out 0).trans rfl; have hcz21_1 : w18.cell? ⟨gb153, 1, none⟩ = some (.int .u32 a1_1) := (blk_cell BK153.out 1).trans rfl; have hcz21_2 : w18.cell? ⟨gb153, 2, none⟩ = some (.int .u64 a1_2) := (blk_cell BK153.out 2).trans rfl; have hcz21_3 : w18.cell? ⟨gb153, 3, none⟩ = some (.int .i64 a1_3) := (blk_cell BK153.out 3).trans rfl; have hcz21_4 : w18.cell? ⟨gb153, 4, none⟩ = some (.slice a1_4.A a1_4.n a1_4.c) := (blk_cell BK153.out 4).trans rfl; have hcz21_5 : w18.cell? ⟨gb153, 5, none⟩ = some (.string a1_5) := (blk_cell BK153.out 5).trans rfl; have hfz21_0 := blk_frozen BK153.out 0; have hfz21_1 := blk_frozen BK153.out 1; have hfz21_2 := blk_frozen BK153.out 2; have hfz21_3 := blk_frozen BK153.out 3; have hfz21_4 := blk_frozen BK153.out 4; have hfz21_5 := blk_frozen BK153.out 5))
    (try simp only [Act.put, List.setIfInBounds_toArray, List.set_cons_zero, List.set_cons_succ])
    go_cut [24] (fun v24 wc => ∃ (kq : Nat) (x24_13 : Bool), v24 = .bool x24_13 ∧ Aside0 (consortref10_Take.j0 kq x24_13 a0_0 a0_1 l0_2 a1_0 a1_1 a1_2 a1_3 a1_4 a1_5 = some (r1, r2, r3, r4, r5)) ∧ Aside0 (kq ≤ k) ∧ Aside0 (Kd.R k37 37 wc w0.heap.size (fun k_ => (P0_2_ k_ ∨ w.heap.size ≤ k_) ∧ k_ ≠ gb153) (.slice Ao15 l0_2.length co15) l0_2) ∧ Aside0 (wc.heap[gb152]? = some (.cells #[.int .i64 a0_0, .int .u32 a0_1, (.slice Ao15 l0_2.length co15)] 29 (0, 0))) ∧ Aside0 (wc.heap[gb153]? = some (.cells #[.int .i64 a1_0, .int .u32 a1_1, .int .u64 a1_2, .int .i64 a1_3, .slice a1_4.A a1_4.n a1_4.c, .string a1_5] 37 (0, 0))) ∧ Aside0 (wc.heap[gb154]? = some (.cells #[.int .i64 0, .int .u32 0, (.slice none 0 0)] 29 (0, 0))) ∧ Aside0 (Kept w wc (fun k_ => P0_2_ k_)) ∧ Aside0 (Below w0.heap.size w0 wc))
    case first =>
      have H := HC14.out
      clear HC14
      by_cases c22 : a1_1 ≤ a0_1
      · rw [if_pos c22] at H
        have c22b0 : decide (a1_1 ≤ a0_1) = true := decide_eq_true c22
        clear c22
        (first | rw [c22b0] | (simp only [i64_w, i32_w]; rw [c22b0]) | skip)
        have H' := Aside0.mk H
        clear H
        have hnb23 := NB153_152.out
        have hnc23 := NB152_153.out
        have hnb24 := NB153_154.out
        have hnc24 := NB154_153.out
        have hcz25_0 : w18.cell? ⟨gb153, 0, none⟩ = some (.int .i64 a1_0) := (blk_cell BK153.out 0).trans rfl
        have hcz25_1 : w18.cell? ⟨gb153, 1, none⟩ = some (.int .u32 a1_1) := (blk_cell BK153.out 1).trans rfl
        have hcz25_2 : w18.cell? ⟨gb153, 2, none⟩ = some (.int .u64 a1_2) := (blk_cell BK153.out 2).trans rfl
        have hcz25_3 : w18.cell? ⟨gb153, 3, none⟩ = some (.int .i64 a1_3) := (blk_cell BK153.out 3).trans rfl
        have hcz25_4 : w18.cell? ⟨gb153, 4, none⟩ = some (.slice a1_4.A a1_4.n a1_4.c) := (blk_cell BK153.out 4).trans rfl
        have hcz25_5 : w18.cell? ⟨gb153, 5, none⟩ = some (.string a1_5) := (blk_cell BK153.out 5).trans rfl
        have hfz25_0 := blk_frozen BK153.out 0
        have hfz25_1 := blk_frozen BK153.out 1
        have hfz25_2 := blk_frozen BK153.out 2
        have hfz25_3 := blk_frozen BK153.out 3
        have hfz25_4 := blk_frozen BK153.out 4
        have hfz25_5 := blk_frozen BK153.out 5
        have hnb26 := NB152_154.out
        have hnc26 := NB154_152.out
        have hcz27_0 : w18.cell? ⟨gb152, 0, none⟩ = some (.int .i64 a0_0) := (blk_cell BK152.out 0).trans rfl
        have hcz27_1 : w18.cell? ⟨gb152, 1, none⟩ = some (.int .u32 a0_1) := (blk_cell BK152.out 1).trans rfl
        have hcz27_2 : w18.cell? ⟨gb152, 2, none⟩ = some (.slice Ao15 l0_2.length co15) := (blk_cell BK152.out 2).trans rfl
        have hfz27_0 := blk_frozen BK152.out 0
        have hfz27_1 := blk_frozen BK152.out 1
        have hfz27_2 := blk_frozen BK152.out 2
        go_wp2
        go_meet
        case rel => exact ⟨_, (true), (by first | rfl | (simp; done) | (simp [*]; done)), H', ⟨by first | omega | exact Nat.le_refl _⟩, ⟨by (with_reducible repeat (first | apply Kd.R_alloc | apply Kd.R_drewN | apply Kd.R_drew)); exact HO0_2.out⟩, ⟨by (with_reducible repeat (first | refine blk_drewN ?_ _ | refine blk_drew ?_ | refine blk_alloc ?_ _)); exact BK152.out⟩, ⟨by (with_reducible repeat (first | refine blk_drewN ?_ _ | refine blk_drew ?_ | refine blk_alloc ?_ _)); exact BK153.out⟩, ⟨by (with_reducible repeat (first | refine blk_drewN ?_ _ | refine blk_drew ?_ | refine blk_alloc ?_ _)); exact BK154.out⟩, ⟨by repeat (first | (with_reducible first | exact HK.out | apply Kept.alloc | apply Kept.drewN | apply Kept.drew | refine Kept.setCell ?_ (.inr GW152.out) _ | refine Kept.setCell ?_ (.inr GW153.out) _ | refine Kept.setCell ?_ (.inr GW154.out) _) | exact HK.out)⟩, ⟨by repeat (first | (with_reducible first | exact HB.out | apply below_alloc | apply pw_below_drewN | apply below_drew1 | refine below_set ?_ GE152.out | refine below_set ?_ GE153.out | refine below_set ?_ GE154.out) | exact HB.out)⟩⟩
      · rw [if_neg c22] at H
        have c22b0 : decide (a1_1 ≤ a0_1) = false := decide_eq_false c22
        clear c22
        (first | rw [c22b0] | (simp only [i64_w, i32_w]; rw [c22b0]) | skip)
        replace H := Option.bind_eq_some_iff.mp H
        obtain ⟨t155, A280, H⟩ := H
        replace H : (consortref10_Take.j0 k (decide (t155 ≥ 0)) a0_0 a0_1 l0_2 a1_0 a1_1 a1_2 a1_3 a1_4 a1_5) = some (r1, r2, r3, r4, r5) := H
        have A28 := Aside0.mk A280
        clear A280
        have H' := Aside0.mk H
        clear H
        have hnb29 := NB153_152.out
        have hnc29 := NB152_153.out
        have hnb30 := NB153_154.out
        have hnc30 := NB154_153.out
        have hcz31_0 : w18.cell? ⟨gb153, 0, none⟩ = some (.int .i64 a1_0) := (blk_cell BK153.out 0).trans rfl
        have hcz31_1 : w18.cell? ⟨gb153, 1, none⟩ = some (.int .u32 a1_1) := (blk_cell BK153.out 1).trans rfl
        have hcz31_2 : w18.cell? ⟨gb153, 2, none⟩ = some (.int .u64 a1_2) := (blk_cell BK153.out 2).trans rfl
        have hcz31_3 : w18.cell? ⟨gb153, 3, none⟩ = some (.int .i64 a1_3) := (blk_cell BK153.out 3).trans rfl
        have hcz31_4 : w18.cell? ⟨gb153, 4, none⟩ = some (.slice a1_4.A a1_4.n a1_4.c) := (blk_cell BK153.out 4).trans rfl
        have hcz31_5 : w18.cell? ⟨gb153, 5, none⟩ = some (.string a1_5) := (blk_cell BK153.out 5).trans rfl
        have hfz31_0 := blk_frozen BK153.out 0
        have hfz31_1 := blk_frozen BK153.out 1
        have hfz31_2 := blk_frozen BK153.out 2
        have hfz31_3 := blk_frozen BK153.out 3
        have hfz31_4 := blk_frozen BK153.out 4
        have hfz31_5 := blk_frozen BK153.out 5
        have hnb32 := NB152_154.out
        have hnc32 := NB154_152.out
        have hcz33_0 : w18.cell? ⟨gb152, 0, none⟩ = some (.int .i64 a0_0) := (blk_cell BK152.out 0).trans rfl
        have hcz33_1 : w18.cell? ⟨gb152, 1, none⟩ = some (.int .u32 a0_1) := (blk_cell BK152.out 1).trans rfl
        have hcz33_2 : w18.cell? ⟨gb152, 2, none⟩ = some (.slice Ao15 l0_2.length co15) := (blk_cell BK152.out 2).trans rfl
        have hfz33_0 := blk_frozen BK152.out 0
        have hfz33_1 := blk_frozen BK152.out 1
        have hfz33_2 := blk_frozen BK152.out 2
        go_wp2_with (first | (go_at_call 20; (with_reducible refine (consortref10_find.calls k a0_0 a0_1 _ _ l0_2 a1_1 t155 _ ?side1 ?side2 A28.out).mono ?_); (case side1 => repeat (first | exact (Kd.R_reads' HO0_2.out).2.2 | (with_reducible refine Kd.C_alloc ?_ _) | (with_reducible refine Kd.C_drewN ?_ _) | (with_reducible refine Kd.C_drew ?_))); (case side2 => exact (Kd.R_reads' HO0_2.out).2.1); rintro e w34 ⟨rfl, hb⟩; have n0_ := Aside0.mk (Kd.R_below (by (with_reducible repeat (first | apply Kd.R_alloc | apply Kd.R_drewN | apply Kd.R_drew)); exact HO0_2.out) hb); have n1_ := Aside0.mk (blk_below (g := gb152) (o := .cells #[.int .i64 a0_0, .int .u32 a0_1, .slice Ao15 l0_2.length co15] 29 (0, 0)) (by (with_reducible repeat (first | refine blk_drewN ?_ _ | refine blk_drew ?_ | refine blk_alloc ?_ _)); exact BK152.out) hb); have n2_ := Aside0.mk (blk_below (g := gb153) (o := .cells #[.int .i64 a1_0, .int .u32 a1_1, .int .u64 a1_2, .int .i64 a1_3, .slice a1_4.A a1_4.n a1_4.c, .string a1_5] 37 (0, 0)) (by (with_reducible repeat (first | refine blk_drewN ?_ _ | refine blk_drew ?_ | refine blk_alloc ?_ _)); exact BK153.out) hb); have n3_ := Aside0.mk (blk_below (g := gb154) (o := .cells #[.int .i64 0, .int .u32 0, .slice none 0 0] 29 (0, 0)) (by (with_reducible repeat (first | refine blk_drewN ?_ _ | refine blk_drew ?_ | refine blk_alloc ?_ _)); exact BK154.out) hb); have n4_ := Aside0.mk (Kept.below (S := (fun k_ => P0_2_ k_)) (by repeat (first | (with_reducible first | exact HK.out | apply Kept.alloc | apply Kept.drewN | apply Kept.drew | refine Kept.setCell ?_ (.inr GW152.out) _ | refine Kept.setCell ?_ (.inr GW153.out) _ | refine Kept.setCell ?_ (.inr GW154.out) _) | exact HK.out)) hb); have n5_ := Aside0.mk (below_step (by repeat (first | (with_reducible first | exact HB.out | apply below_alloc | apply pw_below_drewN | apply below_drew1 | refine below_set ?_ GE152.out | refine below_set ?_ GE153.out | refine below_set ?_ GE154.out) | exact HB.out)) hb); clear HO0_2; clear BK152; clear BK153; clear BK154; clear HK; clear HB; have HO0_2 := n0_; have BK152 := n1_; have BK153 := n2_; have BK154 := n3_; have HK := n4_; have HB := n5_; clear n0_ n1_ n2_ n3_ n4_ n5_; (try clear hb); (try clear hb2); (try clear hk); (try clear hi)))
        go_meet
        case rel => exact ⟨_, (decide (t155 ≥ 0)), (by first | rfl | (simp; done) | (simp [*]; done)), H', ⟨by first | omega | exact Nat.le_refl _⟩, ⟨by (with_reducible repeat (first | apply Kd.R_alloc | apply Kd.R_drewN | apply Kd.R_drew)); exact HO0_2.out⟩, ⟨by (with_reducible repeat (first | refine blk_drewN ?_ _ | refine blk_drew ?_ | refine blk_alloc ?_ _)); exact BK152.out⟩, ⟨by (with_reducible repeat (first | refine blk_drewN ?_ _ | refine blk_drew ?_ | refine blk_alloc ?_ _)); exact BK153.out⟩, ⟨by (with_reducible repeat (first | refine blk_drewN ?_ _ | refine blk_drew ?_ | refine blk_alloc ?_ _)); exact BK154.out⟩, ⟨by repeat (first | (with_reducible first | exact HK.out | apply Kept.alloc | apply Kept.drewN | apply Kept.drew | refine Kept.setCell ?_ (.inr GW152.out) _ | refine Kept.setCell ?_ (.inr GW153.out) _ | refine Kept.setCell ?_ (.inr GW154.out) _) | exact HK.out)⟩, ⟨by repeat (first | (with_reducible first | exact HB.out | apply below_alloc | apply pw_below_drewN | apply below_drew1 | refine below_set ?_ GE152.out | refine below_set ?_ GE153.out | refine below_set ?_ GE154.out) | exact HB.out)⟩⟩
    case rest =>
      clear HC14
      try clear c1
      try clear c2
      try clear p2
      try clear c3
      try clear c3b0
      try clear c3b1
      try clear c8
      try clear c9
      try clear c11
      try clear c12
      try clear c19
      try clear c20
      try clear c22
      try clear c22b0
      try clear c23
      try clear c24
      try clear c26
      try clear c29
      try clear c30
      try clear c32
      try clear hcz10_0
      try clear hcz10_1
      try clear hcz10_2
      try clear hcz10_3
      try clear hcz10_4
      try clear hcz10_5
      try clear hcz12_0
      try clear hcz12_1
      try clear hcz12_2
      try clear hcz13_0
      try clear hcz13_1
      try clear hcz13_2
      try clear hcz21_0
      try clear hcz21_1
      try clear hcz21_2
      try clear hcz21_3
      try clear hcz21_4
      try clear hcz21_5
      try clear hcz25_0
      try clear hcz25_1
      try clear hcz25_2
      try clear hcz25_3
      try clear hcz25_4
      try clear hcz25_5
      try clear hcz27_0
      try clear hcz27_1
      try clear hcz27_2
      try clear hcz31_0
      try clear hcz31_1
      try clear hcz31_2
      try clear hcz31_3
      try clear hcz31_4
      try clear hcz31_5
      try clear hcz33_0
      try clear hcz33_1
      try clear hcz33_2
      try clear hfz10_0
      try clear hfz10_1
      try clear hfz10_2
      try clear hfz10_3
      try clear hfz10_4
      try clear hfz10_5
      try clear hfz12_0
      try clear hfz12_1
      try clear hfz12_2
      try clear hfz13_0
      try clear hfz13_1
      try clear hfz13_2
      try clear hfz21_0
      try clear hfz21_1
      try clear hfz21_2
      try clear hfz21_3
      try clear hfz21_4
      try clear hfz21_5
      try clear hfz25_0
      try clear hfz25_1
      try clear hfz25_2
      try clear hfz25_3
      try clear hfz25_4
      try clear hfz25_5
      try clear hfz27_0
      try clear hfz27_1
      try clear hfz27_2
      try clear hfz31_0
      try clear hfz31_1
      try clear hfz31_2
      try clear hfz31_3
      try clear hfz31_4
      try clear hfz31_5
      try clear hfz33_0
      try clear hfz33_1
      try clear hfz33_2
      obtain ⟨kq, x24_13, rfl, HA, HJ13, HO_153002, BK152, BK153, BK154, HK, HB⟩ := hcut
      cases kq with
      | zero => exact absurd HA.out (by simp [consortref10_Take.j0])
      | succ kj13 =>
        have H := HA.out
        clear HA
        simp only [consortref10_Take.j0] at H
        by_cases c35 : x24_13 = true
        · subst c35
          have H1 : (some (a0_0, a0_1, l0_2, ([] : List (S37)), 12)) = some (r1, r2, r3, r4, r5) := by first | (rw [if_pos rfl] at H; done) | (rw [if_pos rfl] at H; exact H)
          clear H
          have H := H1
          clear H1
          simp only [Option.some.injEq, Prod.mk.injEq] at H
          obtain ⟨rfl, rfl, rfl, rfl, rfl⟩ := H
          have hnb36 := NB152_153.out
          have hnc36 := NB153_152.out
          have hnb37 := NB152_154.out
          have hnc37 := NB154_152.out
          have hcz38_0 : wc.cell? ⟨gb152, 0, none⟩ = some (.int .i64 a0_0) := (blk_cell BK152.out 0).trans rfl
          have hcz38_1 : wc.cell? ⟨gb152, 1, none⟩ = some (.int .u32 a0_1) := (blk_cell BK152.out 1).trans rfl
          have hcz38_2 : wc.cell? ⟨gb152, 2, none⟩ = some (.slice Ao15 l0_2.length co15) := (blk_cell BK152.out 2).trans rfl
          have hfz38_0 := blk_frozen BK152.out 0
          have hfz38_1 := blk_frozen BK152.out 1
          have hfz38_2 := blk_frozen BK152.out 2
          have hnb39 := NB154_153.out
          have hnc39 := NB153_154.out
          have hcz40_0 : wc.cell? ⟨gb154, 0, none⟩ = some (.int .i64 0) := (blk_cell BK154.out 0).trans rfl
          have hcz40_1 : wc.cell? ⟨gb154, 1, none⟩ = some (.int .u32 0) := (blk_cell BK154.out 1).trans rfl
          have hcz40_2 : wc.cell? ⟨gb154, 2, none⟩ = some (.slice none 0 0) := (blk_cell BK154.out 2).trans rfl
          have hfz40_0 := blk_frozen BK154.out 0
          have hfz40_1 := blk_frozen BK154.out 1
          have hfz40_2 := blk_frozen BK154.out 2
          go_wp2
          refine bodyPost_ret (results_ctt rfl _ _ gb154 29 #[.int .i64 a0_0, .int .u32 a0_1, .slice Ao15 l0_2.length co15] (0, 0) _ rfl (by (with_reducible repeat (first | refine blk_drewN ?_ _ | refine blk_drew ?_ | refine blk_alloc ?_ _)); refine blk_put (cs := #[.int .i64 a0_0, .int .u32 a0_1, .slice none 0 0]) ?_ 2 _ rfl; (with_reducible repeat (first | refine blk_drewN ?_ _ | refine blk_drew ?_ | refine blk_alloc ?_ _)); refine blk_put (cs := #[.int .i64 a0_0, .int .u32 0, .slice none 0 0]) ?_ 1 _ rfl; (with_reducible repeat (first | refine blk_drewN ?_ _ | refine blk_drew ?_ | refine blk_alloc ?_ _)); refine blk_put (cs := #[.int .i64 0, .int .u32 0, .slice none 0 0]) ?_ 0 _ rfl; (with_reducible repeat (first | refine blk_drewN ?_ _ | refine blk_drew ?_ | refine blk_alloc ?_ _)); exact BK154.out) Try.underlying29 rfl (by kernel_rfl)) rfl ?_
          exact ⟨_, _, by first | rfl | (simp [errW_none, errW_some] <;> rfl) | (simp [*, errW_none, errW_some] <;> rfl), by (with_reducible repeat (first | apply Kd.R_alloc | apply Kd.R_drewN | apply Kd.R_drew)); exact Kd.R_mono (Kd.R_far (p := ⟨gb154, 2, none⟩) (Kd.R_far (p := ⟨gb154, 1, none⟩) (Kd.R_far (p := ⟨gb154, 0, none⟩) (Kd.R_types HO_153002.out BK154.out (by first | decide | exact Nat.succ_pos _ | exact ne_of_E rfl (by decide))) (fun _ hk => hk.2) (.int .i64 a0_0)) (fun _ hk => hk.2) (.int .u32 a0_1)) (fun _ hk => hk.2) (.slice Ao15 l0_2.length co15)) (fun _ hk => ⟨hk.1.1, (by simp [Value.ownBlock])⟩), by first | exact Kd.R_nil _ _ _ _ _ | exact Kd.N_nil _ _ _ _ _ | exact Kd.V_nil _ _ _ _ _ | exact Kd.Q_nil _ _ _ _ _ | exact Kd.S_nil _ _ _ _ _, by repeat (first | (with_reducible first | exact HB.out | apply below_alloc | apply pw_below_drewN | apply below_drew1 | refine below_set ?_ GE152.out | refine below_set ?_ GE153.out | refine below_set ?_ GE154.out) | exact HB.out), by repeat (first | (with_reducible first | exact HK.out | apply Kept.alloc | apply Kept.drewN | apply Kept.drew | refine Kept.setCell ?_ (.inr GW152.out) _ | refine Kept.setCell ?_ (.inr GW153.out) _ | refine Kept.setCell ?_ (.inr GW154.out) _) | exact HK.out)⟩
        · replace c35 := Bool.eq_false_iff.mpr c35
          subst c35
          have H1 : (if (wrap64 (a1_1)) > (wrap64 ((wrap64 (a0_1)) + a0_0)) then (some (a0_0, a0_1, l0_2, ([] : List (S37)), 6)) else ((some (([] : List (S37)) : List (S37))).bind fun y156 => (if y156.length + l0_2.length < 1954687338268 then ((some (y156 ++ l0_2 : List (S37))).bind fun y159 => ((some (([(⟨a1_0, a1_1, a1_2, a1_3, a1_4, a1_5⟩ : S37)] : List (S37)) : List (S37))).bind fun y162 => (if y159.length + y162.length < 1954687338268 then (consortref10_Take.l0 kj13 ([] : List (S37)) a0_0 a0_1 (y159 ++ y162)) else (none)))) else (none)))) = some (r1, r2, r3, r4, r5) := by first | (rw [if_neg (show ¬ (false = true) by decide)] at H; done) | (rw [if_neg (show ¬ (false = true) by decide)] at H; exact H)
          clear H
          have H := H1
          clear H1
          by_cases c41 : (wrap64 (a1_1)) > (wrap64 ((wrap64 (a0_1)) + a0_0))
          · rw [if_pos c41] at H
            have c41b0 : decide ((wrap64 ((wrap64 (a0_1)) + a0_0)) < (wrap64 (a1_1))) = true := decide_eq_true c41
            clear c41
            simp only [Option.some.injEq, Prod.mk.injEq] at H
            obtain ⟨rfl, rfl, rfl, rfl, rfl⟩ := H
            have hnb42 := NB153_152.out
            have hnc42 := NB152_153.out
            have hnb43 := NB153_154.out
            have hnc43 := NB154_153.out
            have hcz44_0 : wc.cell? ⟨gb153, 0, none⟩ = some (.int .i64 a1_0) := (blk_cell BK153.out 0).trans rfl
            have hcz44_1 : wc.cell? ⟨gb153, 1, none⟩ = some (.int .u32 a1_1) := (blk_cell BK153.out 1).trans rfl
            have hcz44_2 : wc.cell? ⟨gb153, 2, none⟩ = some (.int .u64 a1_2) := (blk_cell BK153.out 2).trans rfl
            have hcz44_3 : wc.cell? ⟨gb153, 3, none⟩ = some (.int .i64 a1_3) := (blk_cell BK153.out 3).trans rfl
            have hcz44_4 : wc.cell? ⟨gb153, 4, none⟩ = some (.slice a1_4.A a1_4.n a1_4.c) := (blk_cell BK153.out 4).trans rfl
            have hcz44_5 : wc.cell? ⟨gb153, 5, none⟩ = some (.string a1_5) := (blk_cell BK153.out 5).trans rfl
            have hfz44_0 := blk_frozen BK153.out 0
            have hfz44_1 := blk_frozen BK153.out 1
            have hfz44_2 := blk_frozen BK153.out 2
            have hfz44_3 := blk_frozen BK153.out 3
            have hfz44_4 := blk_frozen BK153.out 4
            have hfz44_5 := blk_frozen BK153.out 5
            have hnb45 := NB152_154.out
            have hnc45 := NB154_152.out
            have hcz46_0 : wc.cell? ⟨gb152, 0, none⟩ = some (.int .i64 a0_0) := (blk_cell BK152.out 0).trans rfl
            have hcz46_1 : wc.cell? ⟨gb152, 1, none⟩ = some (.int .u32 a0_1) := (blk_cell BK152.out 1).trans rfl
            have hcz46_2 : wc.cell? ⟨gb152, 2, none⟩ = some (.slice Ao15 l0_2.length co15) := (blk_cell BK152.out 2).trans rfl
            have hfz46_0 := blk_frozen BK152.out 0
            have hfz46_1 := blk_frozen BK152.out 1
            have hfz46_2 := blk_frozen BK152.out 2
            have hcz47_0 : wc.cell? ⟨gb154, 0, none⟩ = some (.int .i64 0) := (blk_cell BK154.out 0).trans rfl
            have hcz47_1 : wc.cell? ⟨gb154, 1, none⟩ = some (.int .u32 0) := (blk_cell BK154.out 1).trans rfl
            have hcz47_2 : wc.cell? ⟨gb154, 2, none⟩ = some (.slice none 0 0) := (blk_cell BK154.out 2).trans rfl
            have hfz47_0 := blk_frozen BK154.out 0
            have hfz47_1 := blk_frozen BK154.out 1
            have hfz47_2 := blk_frozen BK154.out 2
            go_wp2
            refine bodyPost_ret (results_ctt rfl _ _ gb154 29 #[.int .i64 a0_0, .int .u32 a0_1, .slice Ao15 l0_2.length co15] (0, 0) _ rfl (by (with_reducible repeat (first | refine blk_drewN ?_ _ | refine blk_drew ?_ | refine blk_alloc ?_ _)); refine blk_put (cs := #[.int .i64 a0_0, .int .u32 a0_1, .slice none 0 0]) ?_ 2 _ rfl; (with_reducible repeat (first | refine blk_drewN ?_ _ | refine blk_drew ?_ | refine blk_alloc ?_ _)); refine blk_put (cs := #[.int .i64 a0_0, .int .u32 0, .slice none 0 0]) ?_ 1 _ rfl; (with_reducible repeat (first | refine blk_drewN ?_ _ | refine blk_drew ?_ | refine blk_alloc ?_ _)); refine blk_put (cs := #[.int .i64 0, .int .u32 0, .slice none 0 0]) ?_ 0 _ rfl; (with_reducible repeat (first | refine blk_drewN ?_ _ | refine blk_drew ?_ | refine blk_alloc ?_ _)); exact BK154.out) Try.underlying29 rfl (by kernel_rfl)) rfl ?_
            exact ⟨_, _, by first | rfl | (simp [errW_none, errW_some] <;> rfl) | (simp [*, errW_none, errW_some] <;> rfl), by (with_reducible repeat (first | apply Kd.R_alloc | apply Kd.R_drewN | apply Kd.R_drew)); exact Kd.R_mono (Kd.R_far (p := ⟨gb154, 2, none⟩) (Kd.R_far (p := ⟨gb154, 1, none⟩) (Kd.R_far (p := ⟨gb154, 0, none⟩) (Kd.R_types HO_153002.out BK154.out (by first | decide | exact Nat.succ_pos _ | exact ne_of_E rfl (by decide))) (fun _ hk => hk.2) (.int .i64 a0_0)) (fun _ hk => hk.2) (.int .u32 a0_1)) (fun _ hk => hk.2) (.slice Ao15 l0_2.length co15)) (fun _ hk => ⟨hk.1.1, (by simp [Value.ownBlock])⟩), by first | exact Kd.R_nil _ _ _ _ _ | exact Kd.N_nil _ _ _ _ _ | exact Kd.V_nil _ _ _ _ _ | exact Kd.Q_nil _ _ _ _ _ | exact Kd.S_nil _ _ _ _ _, by repeat (first | (with_reducible first | exact HB.out | apply below_alloc | apply pw_below_drewN | apply below_drew1 | refine below_set ?_ GE152.out | refine below_set ?_ GE153.out | refine below_set ?_ GE154.out) | exact HB.out), by repeat (first | (with_reducible first | exact HK.out | apply Kept.alloc | apply Kept.drewN | apply Kept.drew | refine Kept.setCell ?_ (.inr GW152.out) _ | refine Kept.setCell ?_ (.inr GW153.out) _ | refine Kept.setCell ?_ (.inr GW154.out) _) | exact HK.out)⟩
          · rw [if_neg c41] at H
            have c41b0 : decide ((wrap64 ((wrap64 (a0_1)) + a0_0)) < (wrap64 (a1_1))) = false := decide_eq_false c41
            clear c41
            obtain ⟨y156, hy156⟩ : ∃ y_ : List (S37), y_ = (([] : List (S37))) := ⟨_, rfl⟩
            replace H : (if y156.length + l0_2.length < 1954687338268 then ((some (y156 ++ l0_2 : List (S37))).bind fun y159 => ((some (([(⟨a1_0, a1_1, a1_2, a1_3, a1_4, a1_5⟩ : S37)] : List (S37)) : List (S37))).bind fun y162 => (if y159.length + y162.length < 1954687338268 then (consortref10_Take.l0 kj13 ([] : List (S37)) a0_0 a0_1 (y159 ++ y162)) else (none)))) else (none)) = some (r1, r2, r3, r4, r5) := by first | (rw [hy156]; with_reducible exact H) | (have H2_ := (Option.bind_some _ _).symm.trans H; rw [hy156]; with_reducible exact H2_) | (have H2_ := (Option.bind_some _ _).symm.trans H; with_reducible exact H2_) | with_reducible exact H | (rw [hy156]; exact H) | exact H
            have Ny156 := Aside0.mk hy156
            clear hy156
            by_cases c48 : y156.length + l0_2.length < 1954687338268
            · rw [if_pos c48] at H
              have LMc48 := Aside0.mk c48
              clear c48
              obtain ⟨y159, hy159⟩ : ∃ y_ : List (S37), y_ = (y156 ++ l0_2) := ⟨_, rfl⟩
              replace H : ((some (([(⟨a1_0, a1_1, a1_2, a1_3, a1_4, a1_5⟩ : S37)] : List (S37)) : List (S37))).bind fun y162 => (if y159.length + y162.length < 1954687338268 then (consortref10_Take.l0 kj13 ([] : List (S37)) a0_0 a0_1 (y159 ++ y162)) else (none))) = some (r1, r2, r3, r4, r5) := by first | (rw [hy159]; with_reducible exact H) | (have H2_ := (Option.bind_some _ _).symm.trans H; rw [hy159]; with_reducible exact H2_) | (have H2_ := (Option.bind_some _ _).symm.trans H; with_reducible exact H2_) | with_reducible exact H | (rw [hy159]; exact H) | exact H
              have Ny159 := Aside0.mk hy159
              clear hy159
              obtain ⟨y162, hy162⟩ : ∃ y_ : List (S37), y_ = (([(⟨a1_0, a1_1, a1_2, a1_3, a1_4, a1_5⟩ : S37)] : List (S37))) := ⟨_, rfl⟩
              replace H : (if y159.length + y162.length < 1954687338268 then (consortref10_Take.l0 kj13 ([] : List (S37)) a0_0 a0_1 (y159 ++ y162)) else (none)) = some (r1, r2, r3, r4, r5) := by first | (rw [hy162]; with_reducible exact H) | (have H2_ := (Option.bind_some _ _).symm.trans H; rw [hy162]; with_reducible exact H2_) | (have H2_ := (Option.bind_some _ _).symm.trans H; with_reducible exact H2_) | with_reducible exact H | (rw [hy162]; exact H) | exact H
              have Ny162 := Aside0.mk hy162
              clear hy162
              by_cases c49 : y159.length + y162.length < 1954687338268
              · rw [if_pos c49] at H
                have LMc49 := Aside0.mk c49
                clear c49
                obtain ⟨y165, hy165⟩ : ∃ y_ : List (S37), y_ = (y159 ++ y162) := ⟨_, rfl⟩
                replace H : (consortref10_Take.l0 kj13 ([] : List (S37)) a0_0 a0_1 y165) = some (r1, r2, r3, r4, r5) := by first | (rw [hy165]; with_reducible exact H) | (have H2_ := (Option.bind_some _ _).symm.trans H; rw [hy165]; with_reducible exact H2_) | (have H2_ := (Option.bind_some _ _).symm.trans H; with_reducible exact H2_) | with_reducible exact H | (rw [hy165]; exact H) | exact H
                have Ny165 := Aside0.mk hy165
                clear hy165
                have H' := Aside0.mk H
                clear H
                have hnb50 := NB153_152.out
                have hnc50 := NB152_153.out
                have hnb51 := NB153_154.out
                have hnc51 := NB154_153.out
                have hcz52_0 : wc.cell? ⟨gb153, 0, none⟩ = some (.int .i64 a1_0) := (blk_cell BK153.out 0).trans rfl
                have hcz52_1 : wc.cell? ⟨gb153, 1, none⟩ = some (.int .u32 a1_1) := (blk_cell BK153.out 1).trans rfl
                have hcz52_2 : wc.cell? ⟨gb153, 2, none⟩ = some (.int .u64 a1_2) := (blk_cell BK153.out 2).trans rfl
                have hcz52_3 : wc.cell? ⟨gb153, 3, none⟩ = some (.int .i64 a1_3) := (blk_cell BK153.out 3).trans rfl
                have hcz52_4 : wc.cell? ⟨gb153, 4, none⟩ = some (.slice a1_4.A a1_4.n a1_4.c) := (blk_cell BK153.out 4).trans rfl
                have hcz52_5 : wc.cell? ⟨gb153, 5, none⟩ = some (.string a1_5) := (blk_cell BK153.out 5).trans rfl
                have hfz52_0 := blk_frozen BK153.out 0
                have hfz52_1 := blk_frozen BK153.out 1
                have hfz52_2 := blk_frozen BK153.out 2
                have hfz52_3 := blk_frozen BK153.out 3
                have hfz52_4 := blk_frozen BK153.out 4
                have hfz52_5 := blk_frozen BK153.out 5
                have hnb53 := NB152_154.out
                have hnc53 := NB154_152.out
                have hcz54_0 : wc.cell? ⟨gb152, 0, none⟩ = some (.int .i64 a0_0) := (blk_cell BK152.out 0).trans rfl
                have hcz54_1 : wc.cell? ⟨gb152, 1, none⟩ = some (.int .u32 a0_1) := (blk_cell BK152.out 1).trans rfl
                have hcz54_2 : wc.cell? ⟨gb152, 2, none⟩ = some (.slice Ao15 l0_2.length co15) := (blk_cell BK152.out 2).trans rfl
                have hfz54_0 := blk_frozen BK152.out 0
                have hfz54_1 := blk_frozen BK152.out 1
                have hfz54_2 := blk_frozen BK152.out 2
                try go_wp2
                have n0_ := Aside0.mk (Kd.R_drew HO_153002.out)
                have n1_ := Aside0.mk (blk_drew BK152.out)
                have n2_ := Aside0.mk (blk_drew BK153.out)
                have n3_ := Aside0.mk (blk_drew BK154.out)
                have n4_ := Aside0.mk (Kept.drew HK.out)
                have n5_ := Aside0.mk (below_drew1 HB.out)
                clear HO_153002
                clear BK152
                clear BK153
                clear BK154
                clear HK
                clear HB
                have HO_153002 := n0_
                have BK152 := n1_
                have BK153 := n2_
                have BK154 := n3_
                have HK := n4_
                have HB := n5_
                clear n0_ n1_ n2_ n3_ n4_ n5_
                refine start_ (n := 9) (S := fun w' => w'.cell? ⟨gb152, 0, none⟩ = some (.int .i64 a0_0) ∧ w'.cell? ⟨gb152, 1, none⟩ = some (.int .u32 a0_1) ∧ w'.cell? ⟨gb152, 2, none⟩ = some (.slice Ao15 l0_2.length co15) ∧ w'.cell? ⟨gb153, 0, none⟩ = some (.int .i64 a1_0) ∧ w'.cell? ⟨gb153, 1, none⟩ = some (.int .u32 a1_1) ∧ w'.cell? ⟨gb153, 2, none⟩ = some (.int .u64 a1_2) ∧ w'.cell? ⟨gb153, 3, none⟩ = some (.int .i64 a1_3) ∧ w'.cell? ⟨gb153, 4, none⟩ = some (.slice a1_4.A a1_4.n a1_4.c) ∧ w'.cell? ⟨gb153, 5, none⟩ = some (.string a1_5)) (ds := [8]) #[false, false, false, false, false, false, false, false, false] (by kernel_rfl) rfl rfl ⟨(blk_cell BK152.out 0).trans rfl, (blk_cell BK152.out 1).trans rfl, (blk_cell BK152.out 2).trans rfl, (blk_cell BK153.out 0).trans rfl, (blk_cell BK153.out 1).trans rfl, (blk_cell BK153.out 2).trans rfl, (blk_cell BK153.out 3).trans rfl, (blk_cell BK153.out 4).trans rfl, (blk_cell BK153.out 5).trans rfl⟩ (fun hHeld => ?_); refine with_tabW consortref10_Take.tab7 consortref10_Take.bits7 (fun HT_ HW_ => ?_)
                generalize wc.drew = w55 at HO_153002 BK152 BK153 BK154 HK HB hHeld ⊢
                refine pure_ (i := 1) (N := some 38) (v := ?_) (a' := ?_) #[false, true, false, false, false, false, false, false, false] rfl rfl (any_of HT_.out (by kernel_rfl)) (fun _ _ _ h => h) (Or.inl ⟨by rfl, ?_⟩) ?_ ?_
                rotate_left
                · intro w'
                  go_simp
                  with_reducible rfl
                rotate_left
                · simp only [Act.put, List.setIfInBounds_toArray, List.set_cons_zero, List.set_cons_succ, i64_w, i32_w]
                  rfl
                refine take_ (i := 2) (N := some 39) (v := ?_) (a' := ?_) #[false, true, true, false, false, false, false, false, false] rfl rfl (take_ofW HT_.out HW_.out (by kernel_rfl)) (fun _ _ _ h => h) (Or.inl ⟨by rfl, ?_⟩) hHeld ?_ ?_
                rotate_left
                · rintro w' ⟨s0, s1, s2, s3, s4, s5, s6, s7, s8⟩
                  go_simp
                  with_reducible rfl
                rotate_left
                · simp only [Act.put, List.setIfInBounds_toArray, List.set_cons_zero, List.set_cons_succ, i64_w, i32_w]
                  rfl
                refine take_ (i := 4) (N := some 41) (v := ?_) (a' := ?_) #[false, true, true, false, true, false, false, false, false] rfl rfl (take_ofW HT_.out HW_.out (by kernel_rfl)) (fun _ _ _ h => h) (Or.inl ⟨by rfl, ?_⟩) hHeld ?_ ?_
                rotate_left
                · rintro w' ⟨s0, s1, s2, s3, s4, s5, s6, s7, s8⟩
                  go_simp
                  with_reducible rfl
                rotate_left
                · simp only [Act.put, List.setIfInBounds_toArray, List.set_cons_zero, List.set_cons_succ, i64_w, i32_w]
                  rfl
                refine join_ (σ := Value × Value × Value) 3 #[true, true, true, true, true, true, false, false, false] (fun s_ => [(37, s_.1), (40, s_.2.1), (42, s_.2.2)]) (fun s_ w' => (w'.cell? ⟨gb152, 0, none⟩ = some (.int .i64 a0_0) ∧ w'.cell? ⟨gb152, 1, none⟩ = some (.int .u32 a0_1) ∧ w'.cell? ⟨gb152, 2, none⟩ = some (.slice Ao15 l0_2.length co15) ∧ w'.cell? ⟨gb153, 0, none⟩ = some (.int .i64 a1_0) ∧ w'.cell? ⟨gb153, 1, none⟩ = some (.int .u32 a1_1) ∧ w'.cell? ⟨gb153, 2, none⟩ = some (.int .u64 a1_2) ∧ w'.cell? ⟨gb153, 3, none⟩ = some (.int .i64 a1_3) ∧ w'.cell? ⟨gb153, 4, none⟩ = some (.slice a1_4.A a1_4.n a1_4.c) ∧ w'.cell? ⟨gb153, 5, none⟩ = some (.string a1_5)) ∧ (Kd.R k37 37 w' w0.heap.size (fun k_ => (P0_2_ k_ ∨ w.heap.size ≤ k_) ∧ some k_ ≠ (s_.2.2 : Value).ownBlock ∧ some k_ ≠ (.slice Ao15 l0_2.length co15 : Value).ownBlock ∧ k_ ≠ gb153) s_.2.1 y159) ∧ (Kd.R k37 37 w' w0.heap.size (fun k_ => (P0_2_ k_ ∨ w.heap.size ≤ k_) ∧ some k_ ≠ (s_.2.1 : Value).ownBlock ∧ some k_ ≠ (.slice Ao15 l0_2.length co15 : Value).ownBlock ∧ k_ ≠ gb153) s_.2.2 y162) ∧ (Kd.R k37 37 w' w0.heap.size (fun k_ => (P0_2_ k_ ∨ w.heap.size ≤ k_) ∧ some k_ ≠ (s_.2.1 : Value).ownBlock ∧ some k_ ≠ (s_.2.2 : Value).ownBlock ∧ k_ ≠ gb153) (.slice Ao15 l0_2.length co15) l0_2) ∧ (w'.heap[gb152]? = some (.cells #[.int .i64 a0_0, .int .u32 a0_1, .slice Ao15 l0_2.length co15] 29 (0, 0))) ∧ (w'.heap[gb153]? = some (.cells #[.int .i64 a1_0, .int .u32 a1_1, .int .u64 a1_2, .int .i64 a1_3, .slice a1_4.A a1_4.n a1_4.c, .string a1_5] 37 (0, 0))) ∧ (w'.heap[gb154]? = some (.cells #[.int .i64 0, .int .u32 0, .slice none 0 0] 29 (0, 0))) ∧ (Kept w w' (fun k_ => P0_2_ k_)) ∧ (Below w0.heap.size w0 w')) ?_ ?_
                rotate_left
                · intro hCont
                  refine two_ (i := 0) (j := 5) (Ni := some 37) (Nj := some 42) #[true, true, true, false, true, false, false, false, false] #[false, true, true, false, true, true, false, false, false] rfl rfl rfl rfl (two_of HT_.out (by kernel_rfl)) (by first | decide | exact Nat.succ_pos _ | exact ne_of_E rfl (by decide)) (by first | decide | exact Nat.succ_pos _ | exact ne_of_E rfl (by decide)) (fun K hK => ?_) (fun K hK => ?_)
                  · skip
                    refine Kd.R_lit_step k37 _ 37 ?hg (N := 37) ?hd (xs := ([] : List (S37))) (inner := []) (ok := fun _ => True) (okp := fun _ => True) ?hr ?hp (fun _ hk => hk) trivial (Below.refl _ _) (Nat.le_refl _) (by simp) ?_; (case hd => rfl); (case hg => rfl); (case hr => first | (go_simp; done) | (go_simp; rfl)); (case hp => exact (Reps.none _ _))
                    intro v157 w56 ho57 hb hg_ hnew_
                    clear hg_ hnew_
                    (first | rw [← Ny156.out] at ho57 | (simp only [Int.reduceToNat] at ho57; rw [← Ny156.out] at ho57))
                    have n0_ := Aside0.mk (Kd.R_elder' (by (with_reducible repeat (first | apply Kd.R_alloc | apply Kd.R_drewN | apply Kd.R_drew)); exact HO_153002.out) (Kd.R_base ho57) hb)
                    have n1_ := Aside0.mk (Kd.R_lower (Kd.R_newB (Kd.R_new' (Kd.R_newM (M := fun k_ => (P0_2_ k_ ∨ w.heap.size ≤ k_)) ho57 (by first | exact HK.out.1 | exact (show Kept w _ (fun k_ => P0_2_ k_) from by repeat (first | (with_reducible first | exact HK.out | apply Kept.alloc | apply Kept.drewN | apply Kept.drew | refine Kept.setCell ?_ (.inr GW152.out) _ | refine Kept.setCell ?_ (.inr GW153.out) _ | refine Kept.setCell ?_ (.inr GW154.out) _) | exact HK.out)).1) (fun k_ h_ => .inr h_)) (Kd.R_lt (by (with_reducible repeat (first | apply Kd.R_alloc | apply Kd.R_drewN | apply Kd.R_drew)); exact HO_153002.out))) (g := gb153) (o := .cells #[.int .i64 a1_0, .int .u32 a1_1, .int .u64 a1_2, .int .i64 a1_3, .slice a1_4.A a1_4.n a1_4.c, .string a1_5] 37 (0, 0)) (by (with_reducible repeat (first | refine blk_drewN ?_ _ | refine blk_drew ?_ | refine blk_alloc ?_ _)); exact BK153.out)) (below_size (by repeat (first | (with_reducible first | exact HB.out | apply below_alloc | apply pw_below_drewN | apply below_drew1 | refine below_set ?_ GE152.out | refine below_set ?_ GE153.out | refine below_set ?_ GE154.out) | exact HB.out))))
                    have n2_ := Aside0.mk (blk_below (g := gb152) (o := .cells #[.int .i64 a0_0, .int .u32 a0_1, .slice Ao15 l0_2.length co15] 29 (0, 0)) (by (with_reducible repeat (first | refine blk_drewN ?_ _ | refine blk_drew ?_ | refine blk_alloc ?_ _)); exact BK152.out) hb)
                    have n3_ := Aside0.mk (blk_below (g := gb153) (o := .cells #[.int .i64 a1_0, .int .u32 a1_1, .int .u64 a1_2, .int .i64 a1_3, .slice a1_4.A a1_4.n a1_4.c, .string a1_5] 37 (0, 0)) (by (with_reducible repeat (first | refine blk_drewN ?_ _ | refine blk_drew ?_ | refine blk_alloc ?_ _)); exact BK153.out) hb)
                    have n4_ := Aside0.mk (blk_below (g := gb154) (o := .cells #[.int .i64 0, .int .u32 0, .slice none 0 0] 29 (0, 0)) (by (with_reducible repeat (first | refine blk_drewN ?_ _ | refine blk_drew ?_ | refine blk_alloc ?_ _)); exact BK154.out) hb)
                    have n5_ := Aside0.mk (Kept.below (S := (fun k_ => P0_2_ k_)) (by repeat (first | (with_reducible first | exact HK.out | apply Kept.alloc | apply Kept.drewN | apply Kept.drew | refine Kept.setCell ?_ (.inr GW152.out) _ | refine Kept.setCell ?_ (.inr GW153.out) _ | refine Kept.setCell ?_ (.inr GW154.out) _) | exact HK.out)) hb)
                    have n6_ := Aside0.mk (below_step (by repeat (first | (with_reducible first | exact HB.out | apply below_alloc | apply pw_below_drewN | apply below_drew1 | refine below_set ?_ GE152.out | refine below_set ?_ GE153.out | refine below_set ?_ GE154.out) | exact HB.out)) hb)
                    clear HO_153002
                    clear BK152
                    clear BK153
                    clear BK154
                    clear HK
                    clear HB
                    have HO_153002 := n0_
                    have HO158 := n1_
                    have BK152 := n2_
                    have BK153 := n3_
                    have BK154 := n4_
                    have HK := n5_
                    have HB := n6_
                    clear n0_ n1_ n2_ n3_ n4_ n5_ n6_
                    clear hb ho57
                    refine hK.out _ _ ⟨(blk_cell BK152.out 0).trans rfl, (blk_cell BK152.out 1).trans rfl, (blk_cell BK152.out 2).trans rfl, (blk_cell BK153.out 0).trans rfl, (blk_cell BK153.out 1).trans rfl, (blk_cell BK153.out 2).trans rfl, (blk_cell BK153.out 3).trans rfl, (blk_cell BK153.out 4).trans rfl, (blk_cell BK153.out 5).trans rfl⟩ (fun hHeld => ?_)
                    clear hK K
                    refine norm_ (a' := ?_) ?_ ?_
                    rotate_left
                    · show Act.put _ (some 37) _ = _
                      simp only [Act.put, List.setIfInBounds_toArray, List.set_cons_zero, List.set_cons_succ, i64_w, i32_w]
                      rfl
                    refine two_ (i := 3) (j := 5) (Ni := some 40) (Nj := some 42) #[true, true, true, true, true, false, false, false, false] #[true, true, true, false, true, true, false, false, false] rfl rfl rfl rfl (two_of HT_.out (by kernel_rfl)) (by first | decide | exact Nat.succ_pos _ | exact ne_of_E rfl (by decide)) (by first | decide | exact Nat.succ_pos _ | exact ne_of_E rfl (by decide)) (fun K hK => ?_) (fun K hK => ?_)
                    · skip
                      refine Kd.R_append_rows_step k37 (w0 := w0) w0.heap.size (by rfl) (.tmp 37) (.tmp 39) 22 37 (.agg #[(.int .i64 0), (.int .u32 0), (.int .u64 0), (.int .i64 0), (.slice none 0 0), (.string ⟨#[]⟩)]) 72 rfl Try.underlying22 info37 rfl (by first | decide | exact Nat.succ_pos _ | exact ne_of_E rfl (by decide)) (by omega) v157 y156 l0_2 _ _ _ (fun k_ => (P0_2_ k_ ∨ w.heap.size ≤ k_) ∧ some k_ ≠ (.slice Ao15 l0_2.length co15 : Value).ownBlock ∧ k_ ≠ gb153) (fun _ => False) rfl rfl ?aO ?aR (fun _ _ h => h) (fun _ h => h.elim) ?aF ?aB ?aS ?aL ?_
                      (case aR => repeat (first | exact (Kd.R_reads' HO_153002.out).2.2 | (with_reducible refine Kd.C_alloc ?_ _) | (with_reducible refine Kd.C_drewN ?_ _) | (with_reducible refine Kd.C_drew ?_)))
                      (case aB => exact (by repeat (first | (with_reducible first | exact HB.out | apply below_alloc | apply pw_below_drewN | apply below_drew1 | refine below_set ?_ GE152.out | refine below_set ?_ GE153.out | refine below_set ?_ GE154.out) | exact HB.out)))
                      (case aF => exact (fun k_ hk => ⟨(.inr (Nat.le_trans (by first | exact HK.out.1 | exact (show Kept w _ (fun k_ => P0_2_ k_) from by repeat (first | (with_reducible first | exact HK.out | apply Kept.alloc | apply Kept.drewN | apply Kept.drew | refine Kept.setCell ?_ (.inr GW152.out) _ | refine Kept.setCell ?_ (.inr GW153.out) _ | refine Kept.setCell ?_ (.inr GW154.out) _) | exact HK.out)).1) hk)), Kd.fresh' (Kd.R_lt (by (with_reducible repeat (first | apply Kd.R_alloc | apply Kd.R_drewN | apply Kd.R_drew)); exact HO_153002.out)) k_ hk, Kd.freshB (g := gb153) (o := .cells #[.int .i64 a1_0, .int .u32 a1_1, .int .u64 a1_2, .int .i64 a1_3, .slice a1_4.A a1_4.n a1_4.c, .string a1_5] 37 (0, 0)) (by (with_reducible repeat (first | refine blk_drewN ?_ _ | refine blk_drew ?_ | refine blk_alloc ?_ _)); exact BK153.out) k_ hk⟩))
                      (case aO => exact (by (with_reducible repeat (first | apply Kd.R_alloc | apply Kd.R_drewN | apply Kd.R_drew)); exact Kd.R_mono HO158.out (fun _ hk => ⟨hk.1.1.1, ⟨hk.1.2, hk.2⟩⟩)))
                      (case aS => exact (below_size (by repeat (first | (with_reducible first | exact HB.out | apply below_alloc | apply pw_below_drewN | apply below_drew1 | refine below_set ?_ GE152.out | refine below_set ?_ GE153.out | refine below_set ?_ GE154.out) | exact HB.out))))
                      (case aL => have := LMc48.out; omega)
                      intro v160 w58 ho hb hg hat
                      rw [← Ny159.out] at ho
                      have n0_ := Aside0.mk (Kd.R_after (ok := (fun k_ => (P0_2_ k_ ∨ w.heap.size ≤ k_) ∧ k_ ≠ gb153)) (by (with_reducible repeat (first | apply Kd.R_alloc | apply Kd.R_drewN | apply Kd.R_drew)); exact HO_153002.out) hg hat)
                      have n1_ := Aside0.mk (blk_grown (g := gb152) (o := .cells #[.int .i64 a0_0, .int .u32 a0_1, .slice Ao15 l0_2.length co15] 29 (0, 0)) (by (with_reducible repeat (first | refine blk_drewN ?_ _ | refine blk_drew ?_ | refine blk_alloc ?_ _)); exact BK152.out) hg (Kd.R_ne HO158.out BK152.out (by first | decide | exact Nat.succ_pos _ | exact ne_of_E rfl (by decide))))
                      have n2_ := Aside0.mk (blk_grown (g := gb153) (o := .cells #[.int .i64 a1_0, .int .u32 a1_1, .int .u64 a1_2, .int .i64 a1_3, .slice a1_4.A a1_4.n a1_4.c, .string a1_5] 37 (0, 0)) (by (with_reducible repeat (first | refine blk_drewN ?_ _ | refine blk_drew ?_ | refine blk_alloc ?_ _)); exact BK153.out) hg (Kd.R_away HO158.out (fun _ hk => hk.2)))
                      have n3_ := Aside0.mk (blk_grown (g := gb154) (o := .cells #[.int .i64 0, .int .u32 0, .slice none 0 0] 29 (0, 0)) (by (with_reducible repeat (first | refine blk_drewN ?_ _ | refine blk_drew ?_ | refine blk_alloc ?_ _)); exact BK154.out) hg (Kd.R_ne HO158.out BK154.out (by first | decide | exact Nat.succ_pos _ | exact ne_of_E rfl (by decide))))
                      have n4_ := Aside0.mk (hb)
                      have n5_ := Aside0.mk (Kept.of_grown (S := (fun k_ => P0_2_ k_)) hg (by repeat (first | (with_reducible first | exact HK.out | apply Kept.alloc | apply Kept.drewN | apply Kept.drew | refine Kept.setCell ?_ (.inr GW152.out) _ | refine Kept.setCell ?_ (.inr GW153.out) _ | refine Kept.setCell ?_ (.inr GW154.out) _) | exact HK.out)) (fun k_ e_ => (HO158.out.1 k_ e_).1.1.1))
                      have n6_ := Aside0.mk (ho)
                      clear HO_153002
                      clear BK152
                      clear BK153
                      clear BK154
                      clear HB
                      clear HK
                      clear HO158
                      have HO_153002 := n0_
                      have BK152 := n1_
                      have BK153 := n2_
                      have BK154 := n3_
                      have HB := n4_
                      have HK := n5_
                      have HO161 := n6_
                      clear n0_ n1_ n2_ n3_ n4_ n5_ n6_
                      clear ho hb hg hat
                      refine hK.out _ _ ⟨(blk_cell BK152.out 0).trans rfl, (blk_cell BK152.out 1).trans rfl, (blk_cell BK152.out 2).trans rfl, (blk_cell BK153.out 0).trans rfl, (blk_cell BK153.out 1).trans rfl, (blk_cell BK153.out 2).trans rfl, (blk_cell BK153.out 3).trans rfl, (blk_cell BK153.out 4).trans rfl, (blk_cell BK153.out 5).trans rfl⟩ (fun hHeld => ?_)
                      clear hK K
                      refine norm_ (a' := ?_) ?_ ?_
                      rotate_left
                      · show Act.put _ (some 40) _ = _
                        simp only [Act.put, List.setIfInBounds_toArray, List.set_cons_zero, List.set_cons_succ, i64_w, i32_w]
                        rfl
                      refine one_ (i := 5) (N := some 42) #[true, true, true, true, true, true, false, false, false] rfl rfl (one_of HT_.out (by kernel_rfl)) (by first | decide | exact Nat.succ_pos _ | exact ne_of_E rfl (by decide)) (fun K hK => ?_)
                      refine Kd.R_lit_step k37 _ 37 ?hg (N := 42) ?hd (xs := ([(⟨a1_0, a1_1, a1_2, a1_3, a1_4, a1_5⟩ : S37)] : List (S37))) (inner := [.int .i64 a1_0, .int .u32 a1_1, .int .u64 a1_2, .int .i64 a1_3, .slice a1_4.A a1_4.n a1_4.c, .string a1_5]) (ok := fun _ => True) (okp := fun _ => True) ?hr ?hp (fun _ hk => hk) trivial (Below.refl _ _) (Nat.le_refl _) (by simp) ?_; (case hd => rfl); (case hg => rfl); (case hr => first | (go_simp; done) | (go_simp; rfl)); (case hp => exact (Reps.c6 (show Kd.M k37 _ _ _ (⟨a1_0, a1_1, a1_2, a1_3, a1_4, a1_5⟩ : S37) [.int .i64 a1_0, .int .u32 a1_1, .int .u64 a1_2, .int .i64 a1_3, .slice a1_4.A a1_4.n a1_4.c, .string a1_5] from (k37_mkM _ _ _ (⟨a1_0, a1_1, a1_2, a1_3, a1_4, a1_5⟩ : S37) )) (Reps.none _ _)))
                      intro v163 w59 ho60 hb hg_ hnew_
                      clear hg_ hnew_
                      (first | rw [← Ny162.out] at ho60 | (simp only [Int.reduceToNat] at ho60; rw [← Ny162.out] at ho60))
                      have n0_ := Aside0.mk (Kd.R_elder' (by (with_reducible repeat (first | apply Kd.R_alloc | apply Kd.R_drewN | apply Kd.R_drew)); exact HO_153002.out) (Kd.R_base ho60) hb)
                      have n1_ := Aside0.mk (Kd.R_elder' (by (with_reducible repeat (first | apply Kd.R_alloc | apply Kd.R_drewN | apply Kd.R_drew)); exact HO161.out) (Kd.R_base ho60) hb)
                      have n2_ := Aside0.mk (Kd.R_lower (Kd.R_newB (Kd.R_new' (Kd.R_new' (Kd.R_newM (M := fun k_ => (P0_2_ k_ ∨ w.heap.size ≤ k_)) ho60 (by first | exact HK.out.1 | exact (show Kept w _ (fun k_ => P0_2_ k_) from by repeat (first | (with_reducible first | exact HK.out | apply Kept.alloc | apply Kept.drewN | apply Kept.drew | refine Kept.setCell ?_ (.inr GW152.out) _ | refine Kept.setCell ?_ (.inr GW153.out) _ | refine Kept.setCell ?_ (.inr GW154.out) _) | exact HK.out)).1) (fun k_ h_ => .inr h_)) (Kd.R_lt (by (with_reducible repeat (first | apply Kd.R_alloc | apply Kd.R_drewN | apply Kd.R_drew)); exact HO_153002.out))) (Kd.R_lt (by (with_reducible repeat (first | apply Kd.R_alloc | apply Kd.R_drewN | apply Kd.R_drew)); exact HO161.out))) (g := gb153) (o := .cells #[.int .i64 a1_0, .int .u32 a1_1, .int .u64 a1_2, .int .i64 a1_3, .slice a1_4.A a1_4.n a1_4.c, .string a1_5] 37 (0, 0)) (by (with_reducible repeat (first | refine blk_drewN ?_ _ | refine blk_drew ?_ | refine blk_alloc ?_ _)); exact BK153.out)) (below_size (by repeat (first | (with_reducible first | exact HB.out | apply below_alloc | apply pw_below_drewN | apply below_drew1 | refine below_set ?_ GE152.out | refine below_set ?_ GE153.out | refine below_set ?_ GE154.out) | exact HB.out))))
                      have n3_ := Aside0.mk (blk_below (g := gb152) (o := .cells #[.int .i64 a0_0, .int .u32 a0_1, .slice Ao15 l0_2.length co15] 29 (0, 0)) (by (with_reducible repeat (first | refine blk_drewN ?_ _ | refine blk_drew ?_ | refine blk_alloc ?_ _)); exact BK152.out) hb)
                      have n4_ := Aside0.mk (blk_below (g := gb153) (o := .cells #[.int .i64 a1_0, .int .u32 a1_1, .int .u64 a1_2, .int .i64 a1_3, .slice a1_4.A a1_4.n a1_4.c, .string a1_5] 37 (0, 0)) (by (with_reducible repeat (first | refine blk_drewN ?_ _ | refine blk_drew ?_ | refine blk_alloc ?_ _)); exact BK153.out) hb)
                      have n5_ := Aside0.mk (blk_below (g := gb154) (o := .cells #[.int .i64 0, .int .u32 0, .slice none 0 0] 29 (0, 0)) (by (with_reducible repeat (first | refine blk_drewN ?_ _ | refine blk_drew ?_ | refine blk_alloc ?_ _)); exact BK154.out) hb)
                      have n6_ := Aside0.mk (Kept.below (S := (fun k_ => P0_2_ k_)) (by repeat (first | (with_reducible first | exact HK.out | apply Kept.alloc | apply Kept.drewN | apply Kept.drew | refine Kept.setCell ?_ (.inr GW152.out) _ | refine Kept.setCell ?_ (.inr GW153.out) _ | refine Kept.setCell ?_ (.inr GW154.out) _) | exact HK.out)) hb)
                      have n7_ := Aside0.mk (below_step (by repeat (first | (with_reducible first | exact HB.out | apply below_alloc | apply pw_below_drewN | apply below_drew1 | refine below_set ?_ GE152.out | refine below_set ?_ GE153.out | refine below_set ?_ GE154.out) | exact HB.out)) hb)
                      clear HO_153002
                      clear HO161
                      clear BK152
                      clear BK153
                      clear BK154
                      clear HK
                      clear HB
                      have HO_153002 := n0_
                      have HO161 := n1_
                      have HO164 := n2_
                      have BK152 := n3_
                      have BK153 := n4_
                      have BK154 := n5_
                      have HK := n6_
                      have HB := n7_
                      clear n0_ n1_ n2_ n3_ n4_ n5_ n6_ n7_
                      clear hb ho60
                      refine hK.out _ _ ⟨(blk_cell BK152.out 0).trans rfl, (blk_cell BK152.out 1).trans rfl, (blk_cell BK152.out 2).trans rfl, (blk_cell BK153.out 0).trans rfl, (blk_cell BK153.out 1).trans rfl, (blk_cell BK153.out 2).trans rfl, (blk_cell BK153.out 3).trans rfl, (blk_cell BK153.out 4).trans rfl, (blk_cell BK153.out 5).trans rfl⟩ (fun hHeld => ?_)
                      clear hK K
                      refine norm_ (a' := ?_) ?_ ?_
                      rotate_left
                      · show Act.put _ (some 42) _ = _
                        simp only [Act.put, List.setIfInBounds_toArray, List.set_cons_zero, List.set_cons_succ, i64_w, i32_w]
                        rfl
                      exact norm_ (by simp only [putAll, Act.put, List.setIfInBounds_toArray, List.set_cons_zero, List.set_cons_succ]) (hCont (v157, v160, v163) _ ⟨hHeld, (by (with_reducible repeat (first | apply Kd.R_alloc | apply Kd.R_drewN | apply Kd.R_drew)); exact Kd.R_mono HO161.out (fun _ hk => ⟨hk.1.1, ⟨hk.2, ⟨hk.1.2.1, hk.1.2.2⟩⟩⟩)), (by (with_reducible repeat (first | apply Kd.R_alloc | apply Kd.R_drewN | apply Kd.R_drew)); exact Kd.R_mono HO164.out (fun _ hk => ⟨hk.1.1.1.1, ⟨hk.1.2, ⟨hk.1.1.2, hk.2⟩⟩⟩)), (by (with_reducible repeat (first | apply Kd.R_alloc | apply Kd.R_drewN | apply Kd.R_drew)); exact Kd.R_mono HO_153002.out (fun _ hk => ⟨hk.1.1.1, ⟨hk.1.2, ⟨hk.2, hk.1.1.2⟩⟩⟩)), (by (with_reducible repeat (first | refine blk_drewN ?_ _ | refine blk_drew ?_ | refine blk_alloc ?_ _)); exact BK152.out), (by (with_reducible repeat (first | refine blk_drewN ?_ _ | refine blk_drew ?_ | refine blk_alloc ?_ _)); exact BK153.out), (by (with_reducible repeat (first | refine blk_drewN ?_ _ | refine blk_drew ?_ | refine blk_alloc ?_ _)); exact BK154.out), (by repeat (first | (with_reducible first | exact HK.out | apply Kept.alloc | apply Kept.drewN | apply Kept.drew | refine Kept.setCell ?_ (.inr GW152.out) _ | refine Kept.setCell ?_ (.inr GW153.out) _ | refine Kept.setCell ?_ (.inr GW154.out) _) | exact HK.out)), (by repeat (first | (with_reducible first | exact HB.out | apply below_alloc | apply pw_below_drewN | apply below_drew1 | refine below_set ?_ GE152.out | refine below_set ?_ GE153.out | refine below_set ?_ GE154.out) | exact HB.out))⟩)
                    · skip
                      refine Kd.R_lit_step k37 _ 37 ?hg (N := 42) ?hd (xs := ([(⟨a1_0, a1_1, a1_2, a1_3, a1_4, a1_5⟩ : S37)] : List (S37))) (inner := [.int .i64 a1_0, .int .u32 a1_1, .int .u64 a1_2, .int .i64 a1_3, .slice a1_4.A a1_4.n a1_4.c, .string a1_5]) (ok := fun _ => True) (okp := fun _ => True) ?hr ?hp (fun _ hk => hk) trivial (Below.refl _ _) (Nat.le_refl _) (by simp) ?_; (case hd => rfl); (case hg => rfl); (case hr => first | (go_simp; done) | (go_simp; rfl)); (case hp => exact (Reps.c6 (show Kd.M k37 _ _ _ (⟨a1_0, a1_1, a1_2, a1_3, a1_4, a1_5⟩ : S37) [.int .i64 a1_0, .int .u32 a1_1, .int .u64 a1_2, .int .i64 a1_3, .slice a1_4.A a1_4.n a1_4.c, .string a1_5] from (k37_mkM _ _ _ (⟨a1_0, a1_1, a1_2, a1_3, a1_4, a1_5⟩ : S37) )) (Reps.none _ _)))
                      intro v163 w58 ho59 hb hg_ hnew_
                      clear hg_ hnew_
                      (first | rw [← Ny162.out] at ho59 | (simp only [Int.reduceToNat] at ho59; rw [← Ny162.out] at ho59))
                      have n0_ := Aside0.mk (Kd.R_elder' (by (with_reducible repeat (first | apply Kd.R_alloc | apply Kd.R_drewN | apply Kd.R_drew)); exact HO_153002.out) (Kd.R_base ho59) hb)
                      have n1_ := Aside0.mk (Kd.R_elder' (by (with_reducible repeat (first | apply Kd.R_alloc | apply Kd.R_drewN | apply Kd.R_drew)); exact HO158.out) (Kd.R_base ho59) hb)
                      have n2_ := Aside0.mk (Kd.R_lower (Kd.R_newB (Kd.R_new' (Kd.R_new' (Kd.R_newM (M := fun k_ => (P0_2_ k_ ∨ w.heap.size ≤ k_)) ho59 (by first | exact HK.out.1 | exact (show Kept w _ (fun k_ => P0_2_ k_) from by repeat (first | (with_reducible first | exact HK.out | apply Kept.alloc | apply Kept.drewN | apply Kept.drew | refine Kept.setCell ?_ (.inr GW152.out) _ | refine Kept.setCell ?_ (.inr GW153.out) _ | refine Kept.setCell ?_ (.inr GW154.out) _) | exact HK.out)).1) (fun k_ h_ => .inr h_)) (Kd.R_lt (by (with_reducible repeat (first | apply Kd.R_alloc | apply Kd.R_drewN | apply Kd.R_drew)); exact HO_153002.out))) (Kd.R_lt (by (with_reducible repeat (first | apply Kd.R_alloc | apply Kd.R_drewN | apply Kd.R_drew)); exact HO158.out))) (g := gb153) (o := .cells #[.int .i64 a1_0, .int .u32 a1_1, .int .u64 a1_2, .int .i64 a1_3, .slice a1_4.A a1_4.n a1_4.c, .string a1_5] 37 (0, 0)) (by (with_reducible repeat (first | refine blk_drewN ?_ _ | refine blk_drew ?_ | refine blk_alloc ?_ _)); exact BK153.out)) (below_size (by repeat (first | (with_reducible first | exact HB.out | apply below_alloc | apply pw_below_drewN | apply below_drew1 | refine below_set ?_ GE152.out | refine below_set ?_ GE153.out | refine below_set ?_ GE154.out) | exact HB.out))))
                      have n3_ := Aside0.mk (blk_below (g := gb152) (o := .cells #[.int .i64 a0_0, .int .u32 a0_1, .slice Ao15 l0_2.length co15] 29 (0, 0)) (by (with_reducible repeat (first | refine blk_drewN ?_ _ | refine blk_drew ?_ | refine blk_alloc ?_ _)); exact BK152.out) hb)
                      have n4_ := Aside0.mk (blk_below (g := gb153) (o := .cells #[.int .i64 a1_0, .int .u32 a1_1, .int .u64 a1_2, .int .i64 a1_3, .slice a1_4.A a1_4.n a1_4.c, .string a1_5] 37 (0, 0)) (by (with_reducible repeat (first | refine blk_drewN ?_ _ | refine blk_drew ?_ | refine blk_alloc ?_ _)); exact BK153.out) hb)
                      have n5_ := Aside0.mk (blk_below (g := gb154) (o := .cells #[.int .i64 0, .int .u32 0, .slice none 0 0] 29 (0, 0)) (by (with_reducible repeat (first | refine blk_drewN ?_ _ | refine blk_drew ?_ | refine blk_alloc ?_ _)); exact BK154.out) hb)
                      have n6_ := Aside0.mk (Kept.below (S := (fun k_ => P0_2_ k_)) (by repeat (first | (with_reducible first | exact HK.out | apply Kept.alloc | apply Kept.drewN | apply Kept.drew | refine Kept.setCell ?_ (.inr GW152.out) _ | refine Kept.setCell ?_ (.inr GW153.out) _ | refine Kept.setCell ?_ (.inr GW154.out) _) | exact HK.out)) hb)
                      have n7_ := Aside0.mk (below_step (by repeat (first | (with_reducible first | exact HB.out | apply below_alloc | apply pw_below_drewN | apply below_drew1 | refine below_set ?_ GE152.out | refine below_set ?_ GE153.out | refine below_set ?_ GE154.out) | exact HB.out)) hb)
                      clear HO_153002
                      clear HO158
                      clear BK152
                      clear BK153
                      clear BK154
                      clear HK
                      clear HB
                      have HO_153002 := n0_
                      have HO158 := n1_
                      have HO164 := n2_
                      have BK152 := n3_
                      have BK153 := n4_
                      have BK154 := n5_
                      have HK := n6_
                      have HB := n7_
                      clear n0_ n1_ n2_ n3_ n4_ n5_ n6_ n7_
                      clear hb ho59
                      refine hK.out _ _ ⟨(blk_cell BK152.out 0).trans rfl, (blk_cell BK152.out 1).trans rfl, (blk_cell BK152.out 2).trans rfl, (blk_cell BK153.out 0).trans rfl, (blk_cell BK153.out 1).trans rfl, (blk_cell BK153.out 2).trans rfl, (blk_cell BK153.out 3).trans rfl, (blk_cell BK153.out 4).trans rfl, (blk_cell BK153.out 5).trans rfl⟩ (fun hHeld => ?_)
                      clear hK K
                      refine norm_ (a' := ?_) ?_ ?_
                      rotate_left
                      · show Act.put _ (some 42) _ = _
                        simp only [Act.put, List.setIfInBounds_toArray, List.set_cons_zero, List.set_cons_succ, i64_w, i32_w]
                        rfl
                      refine one_ (i := 3) (N := some 40) #[true, true, true, true, true, true, false, false, false] rfl rfl (one_of HT_.out (by kernel_rfl)) (by first | decide | exact Nat.succ_pos _ | exact ne_of_E rfl (by decide)) (fun K hK => ?_)
                      refine Kd.R_append_rows_step k37 (w0 := w0) w0.heap.size (by rfl) (.tmp 37) (.tmp 39) 22 37 (.agg #[(.int .i64 0), (.int .u32 0), (.int .u64 0), (.int .i64 0), (.slice none 0 0), (.string ⟨#[]⟩)]) 72 rfl Try.underlying22 info37 rfl (by first | decide | exact Nat.succ_pos _ | exact ne_of_E rfl (by decide)) (by omega) v157 y156 l0_2 _ _ _ (fun k_ => (P0_2_ k_ ∨ w.heap.size ≤ k_) ∧ some k_ ≠ (.slice Ao15 l0_2.length co15 : Value).ownBlock ∧ some k_ ≠ (v163 : Value).ownBlock ∧ k_ ≠ gb153) (fun _ => False) rfl rfl ?aO ?aR (fun _ _ h => h) (fun _ h => h.elim) ?aF ?aB ?aS ?aL ?_
                      (case aR => repeat (first | exact (Kd.R_reads' HO_153002.out).2.2 | (with_reducible refine Kd.C_alloc ?_ _) | (with_reducible refine Kd.C_drewN ?_ _) | (with_reducible refine Kd.C_drew ?_)))
                      (case aB => exact (by repeat (first | (with_reducible first | exact HB.out | apply below_alloc | apply pw_below_drewN | apply below_drew1 | refine below_set ?_ GE152.out | refine below_set ?_ GE153.out | refine below_set ?_ GE154.out) | exact HB.out)))
                      (case aF => exact (fun k_ hk => ⟨(.inr (Nat.le_trans (by first | exact HK.out.1 | exact (show Kept w _ (fun k_ => P0_2_ k_) from by repeat (first | (with_reducible first | exact HK.out | apply Kept.alloc | apply Kept.drewN | apply Kept.drew | refine Kept.setCell ?_ (.inr GW152.out) _ | refine Kept.setCell ?_ (.inr GW153.out) _ | refine Kept.setCell ?_ (.inr GW154.out) _) | exact HK.out)).1) hk)), Kd.fresh' (Kd.R_lt (by (with_reducible repeat (first | apply Kd.R_alloc | apply Kd.R_drewN | apply Kd.R_drew)); exact HO_153002.out)) k_ hk, Kd.fresh' (Kd.R_lt (by (with_reducible repeat (first | apply Kd.R_alloc | apply Kd.R_drewN | apply Kd.R_drew)); exact HO164.out)) k_ hk, Kd.freshB (g := gb153) (o := .cells #[.int .i64 a1_0, .int .u32 a1_1, .int .u64 a1_2, .int .i64 a1_3, .slice a1_4.A a1_4.n a1_4.c, .string a1_5] 37 (0, 0)) (by (with_reducible repeat (first | refine blk_drewN ?_ _ | refine blk_drew ?_ | refine blk_alloc ?_ _)); exact BK153.out) k_ hk⟩))
                      (case aO => exact (by (with_reducible repeat (first | apply Kd.R_alloc | apply Kd.R_drewN | apply Kd.R_drew)); exact Kd.R_mono HO158.out (fun _ hk => ⟨hk.1.1.1.1, ⟨hk.1.1.2, ⟨hk.2, hk.1.2⟩⟩⟩)))
                      (case aS => exact (below_size (by repeat (first | (with_reducible first | exact HB.out | apply below_alloc | apply pw_below_drewN | apply below_drew1 | refine below_set ?_ GE152.out | refine below_set ?_ GE153.out | refine below_set ?_ GE154.out) | exact HB.out))))
                      (case aL => have := LMc48.out; omega)
                      intro v160 w60 ho hb hg hat
                      rw [← Ny159.out] at ho
                      have n0_ := Aside0.mk (Kd.R_after (ok := (fun k_ => (P0_2_ k_ ∨ w.heap.size ≤ k_) ∧ some k_ ≠ (v163 : Value).ownBlock ∧ k_ ≠ gb153)) (by (with_reducible repeat (first | apply Kd.R_alloc | apply Kd.R_drewN | apply Kd.R_drew)); exact Kd.R_mono HO_153002.out (fun _ hk => ⟨⟨hk.1.1.1, ⟨hk.2, hk.1.1.2⟩⟩, hk.1.2⟩)) hg hat)
                      have n1_ := Aside0.mk (blk_grown (g := gb152) (o := .cells #[.int .i64 a0_0, .int .u32 a0_1, .slice Ao15 l0_2.length co15] 29 (0, 0)) (by (with_reducible repeat (first | refine blk_drewN ?_ _ | refine blk_drew ?_ | refine blk_alloc ?_ _)); exact BK152.out) hg (Kd.R_ne HO158.out BK152.out (by first | decide | exact Nat.succ_pos _ | exact ne_of_E rfl (by decide))))
                      have n2_ := Aside0.mk (blk_grown (g := gb153) (o := .cells #[.int .i64 a1_0, .int .u32 a1_1, .int .u64 a1_2, .int .i64 a1_3, .slice a1_4.A a1_4.n a1_4.c, .string a1_5] 37 (0, 0)) (by (with_reducible repeat (first | refine blk_drewN ?_ _ | refine blk_drew ?_ | refine blk_alloc ?_ _)); exact BK153.out) hg (Kd.R_away HO158.out (fun _ hk => hk.1.2)))
                      have n3_ := Aside0.mk (blk_grown (g := gb154) (o := .cells #[.int .i64 0, .int .u32 0, .slice none 0 0] 29 (0, 0)) (by (with_reducible repeat (first | refine blk_drewN ?_ _ | refine blk_drew ?_ | refine blk_alloc ?_ _)); exact BK154.out) hg (Kd.R_ne HO158.out BK154.out (by first | decide | exact Nat.succ_pos _ | exact ne_of_E rfl (by decide))))
                      have n4_ := Aside0.mk (Kd.R_after (ok := (fun k_ => (P0_2_ k_ ∨ w.heap.size ≤ k_) ∧ some k_ ≠ (.slice Ao15 l0_2.length co15 : Value).ownBlock ∧ k_ ≠ gb153)) (by (with_reducible repeat (first | apply Kd.R_alloc | apply Kd.R_drewN | apply Kd.R_drew)); exact Kd.R_mono HO164.out (fun _ hk => ⟨⟨hk.1.1.1.1, ⟨hk.1.1.2, hk.2⟩⟩, hk.1.2⟩)) hg hat)
                      have n5_ := Aside0.mk (hb)
                      have n6_ := Aside0.mk (Kept.of_grown (S := (fun k_ => P0_2_ k_)) hg (by repeat (first | (with_reducible first | exact HK.out | apply Kept.alloc | apply Kept.drewN | apply Kept.drew | refine Kept.setCell ?_ (.inr GW152.out) _ | refine Kept.setCell ?_ (.inr GW153.out) _ | refine Kept.setCell ?_ (.inr GW154.out) _) | exact HK.out)) (fun k_ e_ => (HO158.out.1 k_ e_).1.1.1.1))
                      have n7_ := Aside0.mk (ho)
                      clear HO_153002
                      clear BK152
                      clear BK153
                      clear BK154
                      clear HO164
                      clear HB
                      clear HK
                      clear HO158
                      have HO_153002 := n0_
                      have BK152 := n1_
                      have BK153 := n2_
                      have BK154 := n3_
                      have HO164 := n4_
                      have HB := n5_
                      have HK := n6_
                      have HO161 := n7_
                      clear n0_ n1_ n2_ n3_ n4_ n5_ n6_ n7_
                      clear ho hb hg hat
                      refine hK.out _ _ ⟨(blk_cell BK152.out 0).trans rfl, (blk_cell BK152.out 1).trans rfl, (blk_cell BK152.out 2).trans rfl, (blk_cell BK153.out 0).trans rfl, (blk_cell BK153.out 1).trans rfl, (blk_cell BK153.out 2).trans rfl, (blk_cell BK153.out 3).trans rfl, (blk_cell BK153.out 4).trans rfl, (blk_cell BK153.out 5).trans rfl⟩ (fun hHeld => ?_)
                      clear hK K
                      refine norm_ (a' := ?_) ?_ ?_
                      rotate_left
                      · show Act.put _ (some 40) _ = _
                        simp only [Act.put, List.setIfInBounds_toArray, List.set_cons_zero, List.set_cons_succ, i64_w, i32_w]
                        rfl
                      exact norm_ (by simp only [putAll, Act.put, List.setIfInBounds_toArray, List.set_cons_zero, List.set_cons_succ]) (hCont (v157, v160, v163) _ ⟨hHeld, (by (with_reducible repeat (first | apply Kd.R_alloc | apply Kd.R_drewN | apply Kd.R_drew)); exact Kd.R_mono HO161.out (fun _ hk => ⟨hk.1, ⟨hk.2.2.1, ⟨hk.2.1, hk.2.2.2⟩⟩⟩)), (by (with_reducible repeat (first | apply Kd.R_alloc | apply Kd.R_drewN | apply Kd.R_drew)); exact Kd.R_mono HO164.out (fun _ hk => ⟨hk.1.1, ⟨hk.2, ⟨hk.1.2.1, hk.1.2.2⟩⟩⟩)), (by (with_reducible repeat (first | apply Kd.R_alloc | apply Kd.R_drewN | apply Kd.R_drew)); exact Kd.R_mono HO_153002.out (fun _ hk => ⟨hk.1.1, ⟨hk.2, ⟨hk.1.2.1, hk.1.2.2⟩⟩⟩)), (by (with_reducible repeat (first | refine blk_drewN ?_ _ | refine blk_drew ?_ | refine blk_alloc ?_ _)); exact BK152.out), (by (with_reducible repeat (first | refine blk_drewN ?_ _ | refine blk_drew ?_ | refine blk_alloc ?_ _)); exact BK153.out), (by (with_reducible repeat (first | refine blk_drewN ?_ _ | refine blk_drew ?_ | refine blk_alloc ?_ _)); exact BK154.out), (by repeat (first | (with_reducible first | exact HK.out | apply Kept.alloc | apply Kept.drewN | apply Kept.drew | refine Kept.setCell ?_ (.inr GW152.out) _ | refine Kept.setCell ?_ (.inr GW153.out) _ | refine Kept.setCell ?_ (.inr GW154.out) _) | exact HK.out)), (by repeat (first | (with_reducible first | exact HB.out | apply below_alloc | apply pw_below_drewN | apply below_drew1 | refine below_set ?_ GE152.out | refine below_set ?_ GE153.out | refine below_set ?_ GE154.out) | exact HB.out))⟩)
                  · skip
                    refine Kd.R_lit_step k37 _ 37 ?hg (N := 42) ?hd (xs := ([(⟨a1_0, a1_1, a1_2, a1_3, a1_4, a1_5⟩ : S37)] : List (S37))) (inner := [.int .i64 a1_0, .int .u32 a1_1, .int .u64 a1_2, .int .i64 a1_3, .slice a1_4.A a1_4.n a1_4.c, .string a1_5]) (ok := fun _ => True) (okp := fun _ => True) ?hr ?hp (fun _ hk => hk) trivial (Below.refl _ _) (Nat.le_refl _) (by simp) ?_; (case hd => rfl); (case hg => rfl); (case hr => first | (go_simp; done) | (go_simp; rfl)); (case hp => exact (Reps.c6 (show Kd.M k37 _ _ _ (⟨a1_0, a1_1, a1_2, a1_3, a1_4, a1_5⟩ : S37) [.int .i64 a1_0, .int .u32 a1_1, .int .u64 a1_2, .int .i64 a1_3, .slice a1_4.A a1_4.n a1_4.c, .string a1_5] from (k37_mkM _ _ _ (⟨a1_0, a1_1, a1_2, a1_3, a1_4, a1_5⟩ : S37) )) (Reps.none _ _)))
                    intro v163 w56 ho57 hb hg_ hnew_
                    clear hg_ hnew_
                    (first | rw [← Ny162.out] at ho57 | (simp only [Int.reduceToNat] at ho57; rw [← Ny162.out] at ho57))
                    have n0_ := Aside0.mk (Kd.R_elder' (by (with_reducible repeat (first | apply Kd.R_alloc | apply Kd.R_drewN | apply Kd.R_drew)); exact HO_153002.out) (Kd.R_base ho57) hb)
                    have n1_ := Aside0.mk (Kd.R_lower (Kd.R_newB (Kd.R_new' (Kd.R_newM (M := fun k_ => (P0_2_ k_ ∨ w.heap.size ≤ k_)) ho57 (by first | exact HK.out.1 | exact (show Kept w _ (fun k_ => P0_2_ k_) from by repeat (first | (with_reducible first | exact HK.out | apply Kept.alloc | apply Kept.drewN | apply Kept.drew | refine Kept.setCell ?_ (.inr GW152.out) _ | refine Kept.setCell ?_ (.inr GW153.out) _ | refine Kept.setCell ?_ (.inr GW154.out) _) | exact HK.out)).1) (fun k_ h_ => .inr h_)) (Kd.R_lt (by (with_reducible repeat (first | apply Kd.R_alloc | apply Kd.R_drewN | apply Kd.R_drew)); exact HO_153002.out))) (g := gb153) (o := .cells #[.int .i64 a1_0, .int .u32 a1_1, .int .u64 a1_2, .int .i64 a1_3, .slice a1_4.A a1_4.n a1_4.c, .string a1_5] 37 (0, 0)) (by (with_reducible repeat (first | refine blk_drewN ?_ _ | refine blk_drew ?_ | refine blk_alloc ?_ _)); exact BK153.out)) (below_size (by repeat (first | (with_reducible first | exact HB.out | apply below_alloc | apply pw_below_drewN | apply below_drew1 | refine below_set ?_ GE152.out | refine below_set ?_ GE153.out | refine below_set ?_ GE154.out) | exact HB.out))))
                    have n2_ := Aside0.mk (blk_below (g := gb152) (o := .cells #[.int .i64 a0_0, .int .u32 a0_1, .slice Ao15 l0_2.length co15] 29 (0, 0)) (by (with_reducible repeat (first | refine blk_drewN ?_ _ | refine blk_drew ?_ | refine blk_alloc ?_ _)); exact BK152.out) hb)
                    have n3_ := Aside0.mk (blk_below (g := gb153) (o := .cells #[.int .i64 a1_0, .int .u32 a1_1, .int .u64 a1_2, .int .i64 a1_3, .slice a1_4.A a1_4.n a1_4.c, .string a1_5] 37 (0, 0)) (by (with_reducible repeat (first | refine blk_drewN ?_ _ | refine blk_drew ?_ | refine blk_alloc ?_ _)); exact BK153.out) hb)
                    have n4_ := Aside0.mk (blk_below (g := gb154) (o := .cells #[.int .i64 0, .int .u32 0, .slice none 0 0] 29 (0, 0)) (by (with_reducible repeat (first | refine blk_drewN ?_ _ | refine blk_drew ?_ | refine blk_alloc ?_ _)); exact BK154.out) hb)
                    have n5_ := Aside0.mk (Kept.below (S := (fun k_ => P0_2_ k_)) (by repeat (first | (with_reducible first | exact HK.out | apply Kept.alloc | apply Kept.drewN | apply Kept.drew | refine Kept.setCell ?_ (.inr GW152.out) _ | refine Kept.setCell ?_ (.inr GW153.out) _ | refine Kept.setCell ?_ (.inr GW154.out) _) | exact HK.out)) hb)
                    have n6_ := Aside0.mk (below_step (by repeat (first | (with_reducible first | exact HB.out | apply below_alloc | apply pw_below_drewN | apply below_drew1 | refine below_set ?_ GE152.out | refine below_set ?_ GE153.out | refine below_set ?_ GE154.out) | exact HB.out)) hb)
                    clear HO_153002
                    clear BK152
                    clear BK153
                    clear BK154
                    clear HK
                    clear HB
                    have HO_153002 := n0_
                    have HO164 := n1_
                    have BK152 := n2_
                    have BK153 := n3_
                    have BK154 := n4_
                    have HK := n5_
                    have HB := n6_
                    clear n0_ n1_ n2_ n3_ n4_ n5_ n6_
                    clear hb ho57
                    refine hK.out _ _ ⟨(blk_cell BK152.out 0).trans rfl, (blk_cell BK152.out 1).trans rfl, (blk_cell BK152.out 2).trans rfl, (blk_cell BK153.out 0).trans rfl, (blk_cell BK153.out 1).trans rfl, (blk_cell BK153.out 2).trans rfl, (blk_cell BK153.out 3).trans rfl, (blk_cell BK153.out 4).trans rfl, (blk_cell BK153.out 5).trans rfl⟩ (fun hHeld => ?_)
                    clear hK K
                    refine norm_ (a' := ?_) ?_ ?_
                    rotate_left
                    · show Act.put _ (some 42) _ = _
                      simp only [Act.put, List.setIfInBounds_toArray, List.set_cons_zero, List.set_cons_succ, i64_w, i32_w]
                      rfl
                    refine one_ (i := 0) (N := some 37) #[true, true, true, false, true, true, false, false, false] rfl rfl (one_of HT_.out (by kernel_rfl)) (by first | decide | exact Nat.succ_pos _ | exact ne_of_E rfl (by decide)) (fun K hK => ?_)
                    refine Kd.R_lit_step k37 _ 37 ?hg (N := 37) ?hd (xs := ([] : List (S37))) (inner := []) (ok := fun _ => True) (okp := fun _ => True) ?hr ?hp (fun _ hk => hk) trivial (Below.refl _ _) (Nat.le_refl _) (by simp) ?_; (case hd => rfl); (case hg => rfl); (case hr => first | (go_simp; done) | (go_simp; rfl)); (case hp => exact (Reps.none _ _))
                    intro v157 w58 ho59 hb hg_ hnew_
                    clear hg_ hnew_
                    (first | rw [← Ny156.out] at ho59 | (simp only [Int.reduceToNat] at ho59; rw [← Ny156.out] at ho59))
                    have n0_ := Aside0.mk (Kd.R_elder' (by (with_reducible repeat (first | apply Kd.R_alloc | apply Kd.R_drewN | apply Kd.R_drew)); exact HO_153002.out) (Kd.R_base ho59) hb)
                    have n1_ := Aside0.mk (Kd.R_elder' (by (with_reducible repeat (first | apply Kd.R_alloc | apply Kd.R_drewN | apply Kd.R_drew)); exact HO164.out) (Kd.R_base ho59) hb)
                    have n2_ := Aside0.mk (Kd.R_lower (Kd.R_newB (Kd.R_new' (Kd.R_new' (Kd.R_newM (M := fun k_ => (P0_2_ k_ ∨ w.heap.size ≤ k_)) ho59 (by first | exact HK.out.1 | exact (show Kept w _ (fun k_ => P0_2_ k_) from by repeat (first | (with_reducible first | exact HK.out | apply Kept.alloc | apply Kept.drewN | apply Kept.drew | refine Kept.setCell ?_ (.inr GW152.out) _ | refine Kept.setCell ?_ (.inr GW153.out) _ | refine Kept.setCell ?_ (.inr GW154.out) _) | exact HK.out)).1) (fun k_ h_ => .inr h_)) (Kd.R_lt (by (with_reducible repeat (first | apply Kd.R_alloc | apply Kd.R_drewN | apply Kd.R_drew)); exact HO_153002.out))) (Kd.R_lt (by (with_reducible repeat (first | apply Kd.R_alloc | apply Kd.R_drewN | apply Kd.R_drew)); exact HO164.out))) (g := gb153) (o := .cells #[.int .i64 a1_0, .int .u32 a1_1, .int .u64 a1_2, .int .i64 a1_3, .slice a1_4.A a1_4.n a1_4.c, .string a1_5] 37 (0, 0)) (by (with_reducible repeat (first | refine blk_drewN ?_ _ | refine blk_drew ?_ | refine blk_alloc ?_ _)); exact BK153.out)) (below_size (by repeat (first | (with_reducible first | exact HB.out | apply below_alloc | apply pw_below_drewN | apply below_drew1 | refine below_set ?_ GE152.out | refine below_set ?_ GE153.out | refine below_set ?_ GE154.out) | exact HB.out))))
                    have n3_ := Aside0.mk (blk_below (g := gb152) (o := .cells #[.int .i64 a0_0, .int .u32 a0_1, .slice Ao15 l0_2.length co15] 29 (0, 0)) (by (with_reducible repeat (first | refine blk_drewN ?_ _ | refine blk_drew ?_ | refine blk_alloc ?_ _)); exact BK152.out) hb)
                    have n4_ := Aside0.mk (blk_below (g := gb153) (o := .cells #[.int .i64 a1_0, .int .u32 a1_1, .int .u64 a1_2, .int .i64 a1_3, .slice a1_4.A a1_4.n a1_4.c, .string a1_5] 37 (0, 0)) (by (with_reducible repeat (first | refine blk_drewN ?_ _ | refine blk_drew ?_ | refine blk_alloc ?_ _)); exact BK153.out) hb)
                    have n5_ := Aside0.mk (blk_below (g := gb154) (o := .cells #[.int .i64 0, .int .u32 0, .slice none 0 0] 29 (0, 0)) (by (with_reducible repeat (first | refine blk_drewN ?_ _ | refine blk_drew ?_ | refine blk_alloc ?_ _)); exact BK154.out) hb)
                    have n6_ := Aside0.mk (Kept.below (S := (fun k_ => P0_2_ k_)) (by repeat (first | (with_reducible first | exact HK.out | apply Kept.alloc | apply Kept.drewN | apply Kept.drew | refine Kept.setCell ?_ (.inr GW152.out) _ | refine Kept.setCell ?_ (.inr GW153.out) _ | refine Kept.setCell ?_ (.inr GW154.out) _) | exact HK.out)) hb)
                    have n7_ := Aside0.mk (below_step (by repeat (first | (with_reducible first | exact HB.out | apply below_alloc | apply pw_below_drewN | apply below_drew1 | refine below_set ?_ GE152.out | refine below_set ?_ GE153.out | refine below_set ?_ GE154.out) | exact HB.out)) hb)
                    clear HO_153002
                    clear HO164
                    clear BK152
                    clear BK153
                    clear BK154
                    clear HK
                    clear HB
                    have HO_153002 := n0_
                    have HO164 := n1_
                    have HO158 := n2_
                    have BK152 := n3_
                    have BK153 := n4_
                    have BK154 := n5_
                    have HK := n6_
                    have HB := n7_
                    clear n0_ n1_ n2_ n3_ n4_ n5_ n6_ n7_
                    clear hb ho59
                    refine hK.out _ _ ⟨(blk_cell BK152.out 0).trans rfl, (blk_cell BK152.out 1).trans rfl, (blk_cell BK152.out 2).trans rfl, (blk_cell BK153.out 0).trans rfl, (blk_cell BK153.out 1).trans rfl, (blk_cell BK153.out 2).trans rfl, (blk_cell BK153.out 3).trans rfl, (blk_cell BK153.out 4).trans rfl, (blk_cell BK153.out 5).trans rfl⟩ (fun hHeld => ?_)
                    clear hK K
                    refine norm_ (a' := ?_) ?_ ?_
                    rotate_left
                    · show Act.put _ (some 37) _ = _
                      simp only [Act.put, List.setIfInBounds_toArray, List.set_cons_zero, List.set_cons_succ, i64_w, i32_w]
                      rfl
                    refine one_ (i := 3) (N := some 40) #[true, true, true, true, true, true, false, false, false] rfl rfl (one_of HT_.out (by kernel_rfl)) (by first | decide | exact Nat.succ_pos _ | exact ne_of_E rfl (by decide)) (fun K hK => ?_)
                    refine Kd.R_append_rows_step k37 (w0 := w0) w0.heap.size (by rfl) (.tmp 37) (.tmp 39) 22 37 (.agg #[(.int .i64 0), (.int .u32 0), (.int .u64 0), (.int .i64 0), (.slice none 0 0), (.string ⟨#[]⟩)]) 72 rfl Try.underlying22 info37 rfl (by first | decide | exact Nat.succ_pos _ | exact ne_of_E rfl (by decide)) (by omega) v157 y156 l0_2 _ _ _ (fun k_ => (P0_2_ k_ ∨ w.heap.size ≤ k_) ∧ some k_ ≠ (.slice Ao15 l0_2.length co15 : Value).ownBlock ∧ some k_ ≠ (v163 : Value).ownBlock ∧ k_ ≠ gb153) (fun _ => False) rfl rfl ?aO ?aR (fun _ _ h => h) (fun _ h => h.elim) ?aF ?aB ?aS ?aL ?_
                    (case aR => repeat (first | exact (Kd.R_reads' HO_153002.out).2.2 | (with_reducible refine Kd.C_alloc ?_ _) | (with_reducible refine Kd.C_drewN ?_ _) | (with_reducible refine Kd.C_drew ?_)))
                    (case aB => exact (by repeat (first | (with_reducible first | exact HB.out | apply below_alloc | apply pw_below_drewN | apply below_drew1 | refine below_set ?_ GE152.out | refine below_set ?_ GE153.out | refine below_set ?_ GE154.out) | exact HB.out)))
                    (case aF => exact (fun k_ hk => ⟨(.inr (Nat.le_trans (by first | exact HK.out.1 | exact (show Kept w _ (fun k_ => P0_2_ k_) from by repeat (first | (with_reducible first | exact HK.out | apply Kept.alloc | apply Kept.drewN | apply Kept.drew | refine Kept.setCell ?_ (.inr GW152.out) _ | refine Kept.setCell ?_ (.inr GW153.out) _ | refine Kept.setCell ?_ (.inr GW154.out) _) | exact HK.out)).1) hk)), Kd.fresh' (Kd.R_lt (by (with_reducible repeat (first | apply Kd.R_alloc | apply Kd.R_drewN | apply Kd.R_drew)); exact HO_153002.out)) k_ hk, Kd.fresh' (Kd.R_lt (by (with_reducible repeat (first | apply Kd.R_alloc | apply Kd.R_drewN | apply Kd.R_drew)); exact HO164.out)) k_ hk, Kd.freshB (g := gb153) (o := .cells #[.int .i64 a1_0, .int .u32 a1_1, .int .u64 a1_2, .int .i64 a1_3, .slice a1_4.A a1_4.n a1_4.c, .string a1_5] 37 (0, 0)) (by (with_reducible repeat (first | refine blk_drewN ?_ _ | refine blk_drew ?_ | refine blk_alloc ?_ _)); exact BK153.out) k_ hk⟩))
                    (case aO => exact (by (with_reducible repeat (first | apply Kd.R_alloc | apply Kd.R_drewN | apply Kd.R_drew)); exact Kd.R_mono HO158.out (fun _ hk => ⟨hk.1.1.1.1, ⟨hk.1.1.2, ⟨hk.1.2, hk.2⟩⟩⟩)))
                    (case aS => exact (below_size (by repeat (first | (with_reducible first | exact HB.out | apply below_alloc | apply pw_below_drewN | apply below_drew1 | refine below_set ?_ GE152.out | refine below_set ?_ GE153.out | refine below_set ?_ GE154.out) | exact HB.out))))
                    (case aL => have := LMc48.out; omega)
                    intro v160 w60 ho hb hg hat
                    rw [← Ny159.out] at ho
                    have n0_ := Aside0.mk (Kd.R_after (ok := (fun k_ => (P0_2_ k_ ∨ w.heap.size ≤ k_) ∧ some k_ ≠ (v163 : Value).ownBlock ∧ k_ ≠ gb153)) (by (with_reducible repeat (first | apply Kd.R_alloc | apply Kd.R_drewN | apply Kd.R_drew)); exact Kd.R_mono HO_153002.out (fun _ hk => ⟨⟨hk.1.1.1, ⟨hk.1.2, hk.1.1.2⟩⟩, hk.2⟩)) hg hat)
                    have n1_ := Aside0.mk (blk_grown (g := gb152) (o := .cells #[.int .i64 a0_0, .int .u32 a0_1, .slice Ao15 l0_2.length co15] 29 (0, 0)) (by (with_reducible repeat (first | refine blk_drewN ?_ _ | refine blk_drew ?_ | refine blk_alloc ?_ _)); exact BK152.out) hg (Kd.R_ne HO158.out BK152.out (by first | decide | exact Nat.succ_pos _ | exact ne_of_E rfl (by decide))))
                    have n2_ := Aside0.mk (blk_grown (g := gb153) (o := .cells #[.int .i64 a1_0, .int .u32 a1_1, .int .u64 a1_2, .int .i64 a1_3, .slice a1_4.A a1_4.n a1_4.c, .string a1_5] 37 (0, 0)) (by (with_reducible repeat (first | refine blk_drewN ?_ _ | refine blk_drew ?_ | refine blk_alloc ?_ _)); exact BK153.out) hg (Kd.R_away HO158.out (fun _ hk => hk.2)))
                    have n3_ := Aside0.mk (blk_grown (g := gb154) (o := .cells #[.int .i64 0, .int .u32 0, .slice none 0 0] 29 (0, 0)) (by (with_reducible repeat (first | refine blk_drewN ?_ _ | refine blk_drew ?_ | refine blk_alloc ?_ _)); exact BK154.out) hg (Kd.R_ne HO158.out BK154.out (by first | decide | exact Nat.succ_pos _ | exact ne_of_E rfl (by decide))))
                    have n4_ := Aside0.mk (Kd.R_after (ok := (fun k_ => (P0_2_ k_ ∨ w.heap.size ≤ k_) ∧ some k_ ≠ (.slice Ao15 l0_2.length co15 : Value).ownBlock ∧ k_ ≠ gb153)) (by (with_reducible repeat (first | apply Kd.R_alloc | apply Kd.R_drewN | apply Kd.R_drew)); exact Kd.R_mono HO164.out (fun _ hk => ⟨⟨hk.1.1.1.1, ⟨hk.1.1.2, hk.1.2⟩⟩, hk.2⟩)) hg hat)
                    have n5_ := Aside0.mk (hb)
                    have n6_ := Aside0.mk (Kept.of_grown (S := (fun k_ => P0_2_ k_)) hg (by repeat (first | (with_reducible first | exact HK.out | apply Kept.alloc | apply Kept.drewN | apply Kept.drew | refine Kept.setCell ?_ (.inr GW152.out) _ | refine Kept.setCell ?_ (.inr GW153.out) _ | refine Kept.setCell ?_ (.inr GW154.out) _) | exact HK.out)) (fun k_ e_ => (HO158.out.1 k_ e_).1.1.1.1))
                    have n7_ := Aside0.mk (ho)
                    clear HO_153002
                    clear BK152
                    clear BK153
                    clear BK154
                    clear HO164
                    clear HB
                    clear HK
                    clear HO158
                    have HO_153002 := n0_
                    have BK152 := n1_
                    have BK153 := n2_
                    have BK154 := n3_
                    have HO164 := n4_
                    have HB := n5_
                    have HK := n6_
                    have HO161 := n7_
                    clear n0_ n1_ n2_ n3_ n4_ n5_ n6_ n7_
                    clear ho hb hg hat
                    refine hK.out _ _ ⟨(blk_cell BK152.out 0).trans rfl, (blk_cell BK152.out 1).trans rfl, (blk_cell BK152.out 2).trans rfl, (blk_cell BK153.out 0).trans rfl, (blk_cell BK153.out 1).trans rfl, (blk_cell BK153.out 2).trans rfl, (blk_cell BK153.out 3).trans rfl, (blk_cell BK153.out 4).trans rfl, (blk_cell BK153.out 5).trans rfl⟩ (fun hHeld => ?_)
                    clear hK K
                    refine norm_ (a' := ?_) ?_ ?_
                    rotate_left
                    · show Act.put _ (some 40) _ = _
                      simp only [Act.put, List.setIfInBounds_toArray, List.set_cons_zero, List.set_cons_succ, i64_w, i32_w]
                      rfl
                    exact norm_ (by simp only [putAll, Act.put, List.setIfInBounds_toArray, List.set_cons_zero, List.set_cons_succ]) (hCont (v157, v160, v163) _ ⟨hHeld, (by (with_reducible repeat (first | apply Kd.R_alloc | apply Kd.R_drewN | apply Kd.R_drew)); exact Kd.R_mono HO161.out (fun _ hk => ⟨hk.1, ⟨hk.2.2.1, ⟨hk.2.1, hk.2.2.2⟩⟩⟩)), (by (with_reducible repeat (first | apply Kd.R_alloc | apply Kd.R_drewN | apply Kd.R_drew)); exact Kd.R_mono HO164.out (fun _ hk => ⟨hk.1.1, ⟨hk.2, ⟨hk.1.2.1, hk.1.2.2⟩⟩⟩)), (by (with_reducible repeat (first | apply Kd.R_alloc | apply Kd.R_drewN | apply Kd.R_drew)); exact Kd.R_mono HO_153002.out (fun _ hk => ⟨hk.1.1, ⟨hk.2, ⟨hk.1.2.1, hk.1.2.2⟩⟩⟩)), (by (with_reducible repeat (first | refine blk_drewN ?_ _ | refine blk_drew ?_ | refine blk_alloc ?_ _)); exact BK152.out), (by (with_reducible repeat (first | refine blk_drewN ?_ _ | refine blk_drew ?_ | refine blk_alloc ?_ _)); exact BK153.out), (by (with_reducible repeat (first | refine blk_drewN ?_ _ | refine blk_drew ?_ | refine blk_alloc ?_ _)); exact BK154.out), (by repeat (first | (with_reducible first | exact HK.out | apply Kept.alloc | apply Kept.drewN | apply Kept.drew | refine Kept.setCell ?_ (.inr GW152.out) _ | refine Kept.setCell ?_ (.inr GW153.out) _ | refine Kept.setCell ?_ (.inr GW154.out) _) | exact HK.out)), (by repeat (first | (with_reducible first | exact HB.out | apply below_alloc | apply pw_below_drewN | apply below_drew1 | refine below_set ?_ GE152.out | refine below_set ?_ GE153.out | refine below_set ?_ GE154.out) | exact HB.out))⟩)
                rintro ⟨v157, v160, v163⟩ w61 ⟨hS_, h0_, h1_, h2_, h3_, h4_, h5_, h6_, h7_⟩
                have n0_ : Aside0 (Kd.R k37 37 w61 w0.heap.size (fun k_ => (P0_2_ k_ ∨ w.heap.size ≤ k_) ∧ some k_ ≠ (v163 : Value).ownBlock ∧ some k_ ≠ (.slice Ao15 l0_2.length co15 : Value).ownBlock ∧ k_ ≠ gb153) v160 y159) := ⟨h0_⟩
                have n1_ : Aside0 (Kd.R k37 37 w61 w0.heap.size (fun k_ => (P0_2_ k_ ∨ w.heap.size ≤ k_) ∧ some k_ ≠ (v160 : Value).ownBlock ∧ some k_ ≠ (.slice Ao15 l0_2.length co15 : Value).ownBlock ∧ k_ ≠ gb153) v163 y162) := ⟨h1_⟩
                have n2_ : Aside0 (Kd.R k37 37 w61 w0.heap.size (fun k_ => (P0_2_ k_ ∨ w.heap.size ≤ k_) ∧ some k_ ≠ (v160 : Value).ownBlock ∧ some k_ ≠ (v163 : Value).ownBlock ∧ k_ ≠ gb153) (.slice Ao15 l0_2.length co15) l0_2) := ⟨h2_⟩
                have n3_ : Aside0 (w61.heap[gb152]? = some (.cells #[.int .i64 a0_0, .int .u32 a0_1, .slice Ao15 l0_2.length co15] 29 (0, 0))) := ⟨h3_⟩
                have n4_ : Aside0 (w61.heap[gb153]? = some (.cells #[.int .i64 a1_0, .int .u32 a1_1, .int .u64 a1_2, .int .i64 a1_3, .slice a1_4.A a1_4.n a1_4.c, .string a1_5] 37 (0, 0))) := ⟨h4_⟩
                have n5_ : Aside0 (w61.heap[gb154]? = some (.cells #[.int .i64 0, .int .u32 0, .slice none 0 0] 29 (0, 0))) := ⟨h5_⟩
                have n6_ : Aside0 (Kept w w61 (fun k_ => P0_2_ k_)) := ⟨h6_⟩
                have n7_ : Aside0 (Below w0.heap.size w0 w61) := ⟨h7_⟩
                clear HO_153002
                clear BK152
                clear BK153
                clear BK154
                clear HK
                clear HB
                clear h0_ h1_ h2_ h3_ h4_ h5_ h6_ h7_
                have HO161 := n0_
                have HO164 := n1_
                have HO_153002 := n2_
                have BK152 := n3_
                have BK153 := n4_
                have BK154 := n5_
                have HK := n6_
                have HB := n7_
                clear n0_ n1_ n2_ n3_ n4_ n5_ n6_ n7_
                have hHeld : w61.cell? ⟨gb152, 0, none⟩ = some (.int .i64 a0_0) ∧ w61.cell? ⟨gb152, 1, none⟩ = some (.int .u32 a0_1) ∧ w61.cell? ⟨gb152, 2, none⟩ = some (.slice Ao15 l0_2.length co15) ∧ w61.cell? ⟨gb153, 0, none⟩ = some (.int .i64 a1_0) ∧ w61.cell? ⟨gb153, 1, none⟩ = some (.int .u32 a1_1) ∧ w61.cell? ⟨gb153, 2, none⟩ = some (.int .u64 a1_2) ∧ w61.cell? ⟨gb153, 3, none⟩ = some (.int .i64 a1_3) ∧ w61.cell? ⟨gb153, 4, none⟩ = some (.slice a1_4.A a1_4.n a1_4.c) ∧ w61.cell? ⟨gb153, 5, none⟩ = some (.string a1_5) := hS_
                obtain ⟨Ao63, co63, eo63⟩ := Kd.R_slice HO164.out
                (first | subst eo63 | (injection eo63 with f1_ f2_ f3_; have f4_ := f1_.symm; have f5_ := f3_.symm; clear f1_ f2_ f3_; subst f4_; subst f5_))
                refine norm_ (a' := ?_) ?_ ?_
                rotate_left
                · simp only [putAll, Act.put, List.setIfInBounds_toArray, List.set_cons_zero, List.set_cons_succ]
                  rfl
                refine one_ (i := 6) (N := some 43) #[true, true, true, true, true, true, true, false, false] rfl rfl (one_of HT_.out (by kernel_rfl)) (by first | decide | exact Nat.succ_pos _ | exact ne_of_E rfl (by decide)) (fun K hK => ?_)
                refine Kd.R_append_rows_step k37 (w0 := w0) w0.heap.size (by rfl) (.tmp 40) (.tmp 42) 22 37 (.agg #[(.int .i64 0), (.int .u32 0), (.int .u64 0), (.int .i64 0), (.slice none 0 0), (.string ⟨#[]⟩)]) 72 rfl Try.underlying22 info37 rfl (by first | decide | exact Nat.succ_pos _ | exact ne_of_E rfl (by decide)) (by omega) v160 y159 y162 _ _ _ (fun k_ => (P0_2_ k_ ∨ w.heap.size ≤ k_) ∧ some k_ ≠ (.slice Ao15 l0_2.length co15 : Value).ownBlock ∧ some k_ ≠ (.slice Ao63 y162.length co63 : Value).ownBlock ∧ k_ ≠ gb153) (fun _ => False) rfl rfl ?aO ?aR (fun _ _ h => h) (fun _ h => h.elim) ?aF ?aB ?aS ?aL ?_
                (case aR => repeat (first | exact (Kd.R_reads' HO164.out).2.2 | (with_reducible refine Kd.C_alloc ?_ _) | (with_reducible refine Kd.C_drewN ?_ _) | (with_reducible refine Kd.C_drew ?_)))
                (case aB => exact (by repeat (first | (with_reducible first | exact HB.out | apply below_alloc | apply pw_below_drewN | apply below_drew1 | refine below_set ?_ GE152.out | refine below_set ?_ GE153.out | refine below_set ?_ GE154.out) | exact HB.out)))
                (case aF => exact (fun k_ hk => ⟨(.inr (Nat.le_trans (by first | exact HK.out.1 | exact (show Kept w _ (fun k_ => P0_2_ k_) from by repeat (first | (with_reducible first | exact HK.out | apply Kept.alloc | apply Kept.drewN | apply Kept.drew | refine Kept.setCell ?_ (.inr GW152.out) _ | refine Kept.setCell ?_ (.inr GW153.out) _ | refine Kept.setCell ?_ (.inr GW154.out) _) | exact HK.out)).1) hk)), Kd.fresh' (Kd.R_lt (by (with_reducible repeat (first | apply Kd.R_alloc | apply Kd.R_drewN | apply Kd.R_drew)); exact HO_153002.out)) k_ hk, Kd.fresh' (Kd.R_lt (by (with_reducible repeat (first | apply Kd.R_alloc | apply Kd.R_drewN | apply Kd.R_drew)); exact HO164.out)) k_ hk, Kd.freshB (g := gb153) (o := .cells #[.int .i64 a1_0, .int .u32 a1_1, .int .u64 a1_2, .int .i64 a1_3, .slice a1_4.A a1_4.n a1_4.c, .string a1_5] 37 (0, 0)) (by (with_reducible repeat (first | refine blk_drewN ?_ _ | refine blk_drew ?_ | refine blk_alloc ?_ _)); exact BK153.out) k_ hk⟩))
                (case aO => exact (by (with_reducible repeat (first | apply Kd.R_alloc | apply Kd.R_drewN | apply Kd.R_drew)); exact Kd.R_mono HO161.out (fun _ hk => ⟨hk.1, ⟨hk.2.2.1, ⟨hk.2.1, hk.2.2.2⟩⟩⟩)))
                (case aS => exact (below_size (by repeat (first | (with_reducible first | exact HB.out | apply below_alloc | apply pw_below_drewN | apply below_drew1 | refine below_set ?_ GE152.out | refine below_set ?_ GE153.out | refine below_set ?_ GE154.out) | exact HB.out))))
                (case aL => have := LMc49.out; omega)
                intro v166 w62 ho hb hg hat
                rw [← Ny165.out] at ho
                have n0_ := Aside0.mk (Kd.R_after (ok := (fun k_ => (P0_2_ k_ ∨ w.heap.size ≤ k_) ∧ some k_ ≠ (.slice Ao63 y162.length co63 : Value).ownBlock ∧ k_ ≠ gb153)) (by (with_reducible repeat (first | apply Kd.R_alloc | apply Kd.R_drewN | apply Kd.R_drew)); exact Kd.R_mono HO_153002.out (fun _ hk => ⟨⟨hk.1, ⟨hk.2.2.1, hk.2.2.2⟩⟩, hk.2.1⟩)) hg hat)
                have n1_ := Aside0.mk (blk_grown (g := gb152) (o := .cells #[.int .i64 a0_0, .int .u32 a0_1, .slice Ao15 l0_2.length co15] 29 (0, 0)) (by (with_reducible repeat (first | refine blk_drewN ?_ _ | refine blk_drew ?_ | refine blk_alloc ?_ _)); exact BK152.out) hg (Kd.R_ne HO161.out BK152.out (by first | decide | exact Nat.succ_pos _ | exact ne_of_E rfl (by decide))))
                have n2_ := Aside0.mk (blk_grown (g := gb153) (o := .cells #[.int .i64 a1_0, .int .u32 a1_1, .int .u64 a1_2, .int .i64 a1_3, .slice a1_4.A a1_4.n a1_4.c, .string a1_5] 37 (0, 0)) (by (with_reducible repeat (first | refine blk_drewN ?_ _ | refine blk_drew ?_ | refine blk_alloc ?_ _)); exact BK153.out) hg (Kd.R_away HO161.out (fun _ hk => hk.2.2.2)))
                have n3_ := Aside0.mk (blk_grown (g := gb154) (o := .cells #[.int .i64 0, .int .u32 0, .slice none 0 0] 29 (0, 0)) (by (with_reducible repeat (first | refine blk_drewN ?_ _ | refine blk_drew ?_ | refine blk_alloc ?_ _)); exact BK154.out) hg (Kd.R_ne HO161.out BK154.out (by first | decide | exact Nat.succ_pos _ | exact ne_of_E rfl (by decide))))
                have n4_ := Aside0.mk (Kd.R_after (ok := (fun k_ => (P0_2_ k_ ∨ w.heap.size ≤ k_) ∧ some k_ ≠ (.slice Ao15 l0_2.length co15 : Value).ownBlock ∧ k_ ≠ gb153)) (by (with_reducible repeat (first | apply Kd.R_alloc | apply Kd.R_drewN | apply Kd.R_drew)); exact Kd.R_mono HO164.out (fun _ hk => ⟨⟨hk.1, ⟨hk.2.2.1, hk.2.2.2⟩⟩, hk.2.1⟩)) hg hat)
                have n5_ := Aside0.mk (hb)
                have n6_ := Aside0.mk (Kept.of_grown (S := (fun k_ => P0_2_ k_)) hg (by repeat (first | (with_reducible first | exact HK.out | apply Kept.alloc | apply Kept.drewN | apply Kept.drew | refine Kept.setCell ?_ (.inr GW152.out) _ | refine Kept.setCell ?_ (.inr GW153.out) _ | refine Kept.setCell ?_ (.inr GW154.out) _) | exact HK.out)) (fun k_ e_ => (HO161.out.1 k_ e_).1))
                have n7_ := Aside0.mk (ho)
                clear HO_153002
                clear BK152
                clear BK153
                clear BK154
                clear HO164
                clear HB
                clear HK
                clear HO161
                have HO_153002 := n0_
                have BK152 := n1_
                have BK153 := n2_
                have BK154 := n3_
                have HO164 := n4_
                have HB := n5_
                have HK := n6_
                have HO167 := n7_
                clear n0_ n1_ n2_ n3_ n4_ n5_ n6_ n7_
                clear ho hb hg hat
                obtain ⟨Ao64, co64, eo64⟩ := Kd.R_slice HO167.out
                (first | subst eo64 | (injection eo64 with f1_ f2_ f3_; have f4_ := f1_.symm; have f5_ := f3_.symm; clear f1_ f2_ f3_; subst f4_; subst f5_))
                refine hK.out _ _ ⟨(blk_cell BK152.out 0).trans rfl, (blk_cell BK152.out 1).trans rfl, (blk_cell BK152.out 2).trans rfl, (blk_cell BK153.out 0).trans rfl, (blk_cell BK153.out 1).trans rfl, (blk_cell BK153.out 2).trans rfl, (blk_cell BK153.out 3).trans rfl, (blk_cell BK153.out 4).trans rfl, (blk_cell BK153.out 5).trans rfl⟩ (fun hHeld => ?_)
                clear hK K
                refine norm_ (a' := ?_) ?_ ?_
                rotate_left
                · show Act.put _ (some 43) _ = _
                  simp only [Act.put, List.setIfInBounds_toArray, List.set_cons_zero, List.set_cons_succ, i64_w, i32_w]
                  rfl
                refine pure_ (i := 7) (N := some 44) (v := ?_) (a' := ?_) #[true, true, true, true, true, true, true, true, false] rfl rfl (any_of HT_.out (by kernel_rfl)) (fun _ _ _ h => h) (Or.inl ⟨by rfl, ?_⟩) ?_ ?_
                rotate_left
                · intro w'
                  go_simp
                  with_reducible rfl
                rotate_left
                · simp only [Act.put, List.setIfInBounds_toArray, List.set_cons_zero, List.set_cons_succ, i64_w, i32_w]
                  rfl
                refine last_ (i := 8) (N := none) #[true, true, true, true, true, true, true, true, true] rfl rfl (one_of HT_.out (by kernel_rfl)) (by first | decide | exact Nat.succ_pos _ | exact ne_of_E rfl (by decide)) (fun K hK => ?_)
                have hs65 : w62.cell? ⟨gb152, 2, none⟩ = some (.slice Ao15 l0_2.length co15) := (blk_cell BK152.out 2).trans rfl
                have hfs65 := blk_frozen BK152.out 2
                have hns65_1 := NB153_152.out
                have hns65_2 := NB154_152.out
                have hms65_1 := NB152_153.out
                have hms65_2 := NB152_154.out
                refine skip_ (w1 := ?_) (by rfl) rfl ?_ ?_
                rotate_left
                · go_simp
                  rfl
                refine hK.out _ _ ?_
                clear hK K
                refine done_ (done_of HT_.out (by kernel_rfl)) ?_
                try go_wp2
                go_loopg [7] kj13 (fun kq v7 w' => ∃ (x7_2 : List (S37)) (x153001_2 : Int) (x153002_2 : List (S37)) (x155000_2 : Int) (x155001_2 : Int) (u153002 : Value), Aside0 (consortref10_Take.l0 kq x7_2 a0_0 x153001_2 x153002_2 = some (r1, r2, r3, r4, r5)) ∧ Aside0 (kq ≤ kj13) ∧ Aside0 (Kd.R k37 37 w' w0.heap.size (fun k_ => (P0_2_ k_ ∨ w.heap.size ≤ k_) ∧ some k_ ≠ (u153002 : Value).ownBlock ∧ k_ ≠ gb153) v7 x7_2) ∧ Aside0 (Kd.R k37 37 w' w0.heap.size (fun k_ => (P0_2_ k_ ∨ w.heap.size ≤ k_) ∧ some k_ ≠ (v7 : Value).ownBlock ∧ k_ ≠ gb153) u153002 x153002_2) ∧ Aside0 (w'.heap[gb152]? = some (.cells #[.int .i64 a0_0, .int .u32 x153001_2, u153002] 29 (0, 0))) ∧ Aside0 (w'.heap[gb153]? = some (.cells #[.int .i64 a1_0, .int .u32 a1_1, .int .u64 a1_2, .int .i64 a1_3, .slice a1_4.A a1_4.n a1_4.c, .string a1_5] 37 (0, 0))) ∧ Aside0 (w'.heap[gb154]? = some (.cells #[.int .i64 x155000_2, .int .u32 x155001_2, (.slice none 0 0)] 29 (0, 0))) ∧ Aside0 (Kept w w' (fun k_ => P0_2_ k_)) ∧ Aside0 (Below w0.heap.size w0 w'))
                case atStart => exact ⟨(([] : List (S37))), (a0_1), (y165), (0), (0), (.slice Ao64 y165.length co64), H', ⟨Nat.le_refl _⟩, ⟨by first | exact Kd.R_nil _ _ _ _ _ | exact Kd.N_nil _ _ _ _ _ | exact Kd.V_nil _ _ _ _ _ | exact Kd.Q_nil _ _ _ _ _ | exact Kd.S_nil _ _ _ _ _⟩, ⟨by (with_reducible repeat (first | apply Kd.R_alloc | apply Kd.R_drewN | apply Kd.R_drew)); exact Kd.R_mono (Kd.R_far (p := ⟨gb152, 2, none⟩) (Kd.R_types HO167.out BK152.out (by first | decide | exact Nat.succ_pos _ | exact ne_of_E rfl (by decide))) (fun _ hk => hk.2) (.slice Ao64 y165.length co64)) (fun _ hk => ⟨hk.1.1, ⟨(by simp [Value.ownBlock]), hk.1.2.2.2⟩⟩)⟩, ⟨by (with_reducible repeat (first | refine blk_drewN ?_ _ | refine blk_drew ?_ | refine blk_alloc ?_ _)); refine blk_put (cs := #[.int .i64 a0_0, .int .u32 a0_1, .slice Ao15 l0_2.length co15]) ?_ 2 _ rfl; (with_reducible repeat (first | refine blk_drewN ?_ _ | refine blk_drew ?_ | refine blk_alloc ?_ _)); exact BK152.out⟩, ⟨by (with_reducible repeat (first | refine blk_drewN ?_ _ | refine blk_drew ?_ | refine blk_alloc ?_ _)); refine blk_far ?_ NB153_152.out _; (with_reducible repeat (first | refine blk_drewN ?_ _ | refine blk_drew ?_ | refine blk_alloc ?_ _)); exact BK153.out⟩, ⟨by (with_reducible repeat (first | refine blk_drewN ?_ _ | refine blk_drew ?_ | refine blk_alloc ?_ _)); refine blk_far ?_ NB154_152.out _; (with_reducible repeat (first | refine blk_drewN ?_ _ | refine blk_drew ?_ | refine blk_alloc ?_ _)); exact BK154.out⟩, ⟨by repeat (first | (with_reducible first | exact HK.out | apply Kept.alloc | apply Kept.drewN | apply Kept.drew | refine Kept.setCell ?_ (.inr GW152.out) _ | refine Kept.setCell ?_ (.inr GW153.out) _ | refine Kept.setCell ?_ (.inr GW154.out) _) | exact HK.out)⟩, ⟨by repeat (first | (with_reducible first | exact HB.out | apply below_alloc | apply pw_below_drewN | apply below_drew1 | refine below_set ?_ GE152.out | refine below_set ?_ GE153.out | refine below_set ?_ GE154.out) | exact HB.out)⟩⟩
                case round =>
                  clear H'
                  try clear p2
                  try clear c3
                  try clear c4
                  try clear c5
                  try clear c6
                  try clear p6
                  try clear c35
                  try clear c36
                  try clear c37
                  try clear c39
                  try clear c41
                  try clear c41b0
                  try clear c42
                  try clear c43
                  try clear c45
                  try clear c48
                  try clear c49
                  try clear c50
                  try clear c51
                  try clear c53
                  try clear p64
                  try clear hcz38_0
                  try clear hcz38_1
                  try clear hcz38_2
                  try clear hcz40_0
                  try clear hcz40_1
                  try clear hcz40_2
                  try clear hcz44_0
                  try clear hcz44_1
                  try clear hcz44_2
                  try clear hcz44_3
                  try clear hcz44_4
                  try clear hcz44_5
                  try clear hcz46_0
                  try clear hcz46_1
                  try clear hcz46_2
                  try clear hcz47_0
                  try clear hcz47_1
                  try clear hcz47_2
                  try clear hcz52_0
                  try clear hcz52_1
                  try clear hcz52_2
                  try clear hcz52_3
                  try clear hcz52_4
                  try clear hcz52_5
                  try clear hcz54_0
                  try clear hcz54_1
                  try clear hcz54_2
                  try clear hfz33_0
                  try clear hfz33_1
                  try clear hfz33_2
                  try clear hfz38_0
                  try clear hfz38_1
                  try clear hfz38_2
                  try clear hfz40_0
                  try clear hfz40_1
                  try clear hfz40_2
                  try clear hfz44_0
                  try clear hfz44_1
                  try clear hfz44_2
                  try clear hfz44_3
                  try clear hfz44_4
                  try clear hfz44_5
                  try clear hfz46_0
                  try clear hfz46_1
                  try clear hfz46_2
                  try clear hfz47_0
                  try clear hfz47_1
                  try clear hfz47_2
                  try clear hfz52_0
                  try clear hfz52_1
                  try clear hfz52_2
                  try clear hfz52_3
                  try clear hfz52_4
                  try clear hfz52_5
                  try clear hfz54_0
                  try clear hfz54_1
                  try clear hfz54_2
                  obtain ⟨x7_2, x153001_2, x153002_2, x155000_2, x155001_2, u153002, HA, HK2, HO_7, HO_153002, BK152, BK153, BK154, HK, HB⟩ := hrel
                  cases gk with
                  | zero => exact absurd HA.out (by simp [consortref10_Take.l0])
                  | succ k2 =>
                    have H := HA.out
                    clear HA
                    simp only [consortref10_Take.l0] at H
                    replace H := Option.bind_eq_some_iff.mp H
                    obtain ⟨t168, A660, H⟩ := H
                    replace H : (if t168 < 0 then (some (a0_0, x153001_2, x153002_2, x7_2, 0)) else (if 0 ≤ t168 then (if t168 < (x153002_2.length : Int) then ((some (([(⟨(rd_T37 x153002_2 t168).f0, (rd_T37 x153002_2 t168).f1, (rd_T37 x153002_2 t168).f2, (rd_T37 x153002_2 t168).f3, (rd_T37 x153002_2 t168).f4, (rd_T37 x153002_2 t168).f5⟩ : S37)] : List (S37)) : List (S37))).bind fun y170 => (if x7_2.length + y170.length < 1954687338268 then ((some (([] : List (S37)) : List (S37))).bind fun y176 => (if t168 ≤ (x153002_2.length : Int) then ((some (x153002_2.take (t168 : Int).toNat : List (S37))).bind fun y179 => (if y176.length + y179.length < 1954687338268 then ((some (y176 ++ y179 : List (S37))).bind fun y183 => (if 0 ≤ (wrap64 (t168 + 1)) then (if (wrap64 (t168 + 1)) ≤ (x153002_2.length : Int) then ((some (x153002_2.drop ((wrap64 (t168 + 1)) : Int).toNat : List (S37))).bind fun y186 => (if y183.length + y186.length < 1954687338268 then (consortref10_Take.l0 k2 (x7_2 ++ y170) a0_0 ((x153001_2 + 1) % 4294967296) (y183 ++ y186)) else (none))) else (none)) else (none))) else (none))) else (none))) else (none))) else (none)) else (none))) = some (r1, r2, r3, r4, r5) := H
                    have A66 := Aside0.mk A660
                    clear A660
                    by_cases c67 : t168 < 0
                    · rw [if_pos c67] at H
                      have c67b0 : decide (t168 < 0) = true := decide_eq_true c67
                      clear c67
                      simp only [Option.some.injEq, Prod.mk.injEq] at H
                      obtain ⟨rfl, rfl, rfl, rfl, rfl⟩ := H
                      have hnb68 := NB152_153.out
                      have hnc68 := NB153_152.out
                      have hnb69 := NB152_154.out
                      have hnc69 := NB154_152.out
                      have hcz70_0 : wr.cell? ⟨gb152, 0, none⟩ = some (.int .i64 a0_0) := (blk_cell BK152.out 0).trans rfl
                      have hcz70_1 : wr.cell? ⟨gb152, 1, none⟩ = some (.int .u32 x153001_2) := (blk_cell BK152.out 1).trans rfl
                      have hcz70_2 : wr.cell? ⟨gb152, 2, none⟩ = some (u153002) := (blk_cell BK152.out 2).trans rfl
                      have hfz70_0 := blk_frozen BK152.out 0
                      have hfz70_1 := blk_frozen BK152.out 1
                      have hfz70_2 := blk_frozen BK152.out 2
                      obtain ⟨Ao71, co71, eo71⟩ := Kd.R_slice HO_153002.out
                      subst eo71
                      go_wp2_with (first | ((with_reducible refine gate_callee (f := 20) rfl ?_); refine goesL_ (some 49) rfl rfl Try.func20 (by kernel_rfl) rfl #[.agg #[.int .i64 a0_0, .int .u32 x153001_2, .slice Ao71 x153002_2.length co71], .int .u32 ((x153001_2 + 1) % 4294967296)] rfl (by (try simp only [List.map_toArray, List.map_cons, List.map_nil]); first | done | rfl | (simp only [List.length_drop, List.length_take]; rfl)) ?_; (with_reducible refine (consortref10_find.calls k2 a0_0 x153001_2 _ _ x153002_2 ((x153001_2 + 1) % 4294967296) t168 _ ?side1 ?side2 A66.out).mono ?_); (case side1 => repeat (first | exact (Kd.R_reads' HO_153002.out).2.2 | (with_reducible refine Kd.C_alloc ?_ _) | (with_reducible refine Kd.C_drewN ?_ _) | (with_reducible refine Kd.C_drew ?_))); (case side2 => exact (Kd.R_reads' HO_153002.out).2.1); rintro e w72 ⟨rfl, hb⟩; refine ⟨_, rfl, ?_⟩; have n0_ := Aside0.mk (Kd.R_below (by (with_reducible repeat (first | apply Kd.R_alloc | apply Kd.R_drewN | apply Kd.R_drew)); exact HO_7.out) hb); have n1_ := Aside0.mk (Kd.R_below (by (with_reducible repeat (first | apply Kd.R_alloc | apply Kd.R_drewN | apply Kd.R_drew)); exact HO_153002.out) hb); have n2_ := Aside0.mk (blk_below (g := gb152) (o := .cells #[.int .i64 a0_0, .int .u32 x153001_2, .slice Ao71 x153002_2.length co71] 29 (0, 0)) (by (with_reducible repeat (first | refine blk_drewN ?_ _ | refine blk_drew ?_ | refine blk_alloc ?_ _)); exact BK152.out) hb); have n3_ := Aside0.mk (blk_below (g := gb153) (o := .cells #[.int .i64 a1_0, .int .u32 a1_1, .int .u64 a1_2, .int .i64 a1_3, .slice a1_4.A a1_4.n a1_4.c, .string a1_5] 37 (0, 0)) (by (with_reducible repeat (first | refine blk_drewN ?_ _ | refine blk_drew ?_ | refine blk_alloc ?_ _)); exact BK153.out) hb); have n4_ := Aside0.mk (blk_below (g := gb154) (o := .cells #[.int .i64 x155000_2, .int .u32 x155001_2, .slice none 0 0] 29 (0, 0)) (by (with_reducible repeat (first | refine blk_drewN ?_ _ | refine blk_drew ?_ | refine blk_alloc ?_ _)); exact BK154.out) hb); have n5_ := Aside0.mk (Kept.below (S := (fun k_ => P0_2_ k_)) (by repeat (first | (with_reducible first | exact HK.out | apply Kept.alloc | apply Kept.drewN | apply Kept.drew | refine Kept.setCell ?_ (.inr GW152.out) _ | refine Kept.setCell ?_ (.inr GW153.out) _ | refine Kept.setCell ?_ (.inr GW154.out) _) | exact HK.out)) hb); have n6_ := Aside0.mk (below_step (by repeat (first | (with_reducible first | exact HB.out | apply below_alloc | apply pw_below_drewN | apply below_drew1 | refine below_set ?_ GE152.out | refine below_set ?_ GE153.out | refine below_set ?_ GE154.out) | exact HB.out)) hb); clear HO_7; clear HO_153002; clear BK152; clear BK153; clear BK154; clear HK; clear HB; have HO_7 := n0_; have HO_153002 := n1_; have BK152 := n2_; have BK153 := n3_; have BK154 := n4_; have HK := n5_; have HB := n6_; clear n0_ n1_ n2_ n3_ n4_ n5_ n6_; (try clear hb); (try clear hb2); (try clear hk); (try clear hi); have hcz73_0 : w72.cell? ⟨gb152, 0, none⟩ = some (.int .i64 a0_0) := (blk_cell BK152.out 0).trans rfl; have hcz73_1 : w72.cell? ⟨gb152, 1, none⟩ = some (.int .u32 x153001_2) := (blk_cell BK152.out 1).trans rfl; have hcz73_2 : w72.cell? ⟨gb152, 2, none⟩ = some (.slice Ao71 x153002_2.length co71) := (blk_cell BK152.out 2).trans rfl; have hfz73_0 := blk_frozen BK152.out 0; have hfz73_1 := blk_frozen BK152.out 1; have hfz73_2 := blk_frozen BK152.out 2; have hnb74 := NB154_153.out; have hnc74 := NB153_154.out; have hcz75_0 : w72.cell? ⟨gb154, 0, none⟩ = some (.int .i64 x155000_2) := (blk_cell BK154.out 0).trans rfl; have hcz75_1 : w72.cell? ⟨gb154, 1, none⟩ = some (.int .u32 x155001_2) := (blk_cell BK154.out 1).trans rfl; have hcz75_2 : w72.cell? ⟨gb154, 2, none⟩ = some (.slice none 0 0) := (blk_cell BK154.out 2).trans rfl; have hfz75_0 := blk_frozen BK154.out 0; have hfz75_1 := blk_frozen BK154.out 1; have hfz75_2 := blk_frozen BK154.out 2))
                      refine bodyPost_ret (results_ctt rfl _ _ gb154 29 #[.int .i64 a0_0, .int .u32 x153001_2, .slice Ao71 x153002_2.length co71] (0, 0) _ rfl (by (with_reducible repeat (first | refine blk_drewN ?_ _ | refine blk_drew ?_ | refine blk_alloc ?_ _)); refine blk_put (cs := #[.int .i64 a0_0, .int .u32 x153001_2, .slice none 0 0]) ?_ 2 _ rfl; (with_reducible repeat (first | refine blk_drewN ?_ _ | refine blk_drew ?_ | refine blk_alloc ?_ _)); refine blk_put (cs := #[.int .i64 a0_0, .int .u32 x155001_2, .slice none 0 0]) ?_ 1 _ rfl; (with_reducible repeat (first | refine blk_drewN ?_ _ | refine blk_drew ?_ | refine blk_alloc ?_ _)); refine blk_put (cs := #[.int .i64 x155000_2, .int .u32 x155001_2, .slice none 0 0]) ?_ 0 _ rfl; (with_reducible repeat (first | refine blk_drewN ?_ _ | refine blk_drew ?_ | refine blk_alloc ?_ _)); exact BK154.out) Try.underlying29 rfl (by kernel_rfl)) rfl ?_
                      exact ⟨_, _, by first | rfl | (simp [errW_none, errW_some] <;> rfl) | (simp [*, errW_none, errW_some] <;> rfl), by (with_reducible repeat (first | apply Kd.R_alloc | apply Kd.R_drewN | apply Kd.R_drew)); exact Kd.R_mono (Kd.R_far (p := ⟨gb154, 2, none⟩) (Kd.R_far (p := ⟨gb154, 1, none⟩) (Kd.R_far (p := ⟨gb154, 0, none⟩) (Kd.R_types HO_153002.out BK154.out (by first | decide | exact Nat.succ_pos _ | exact ne_of_E rfl (by decide))) (fun _ hk => hk.2) (.int .i64 a0_0)) (fun _ hk => hk.2) (.int .u32 x153001_2)) (fun _ hk => hk.2) (.slice Ao71 x153002_2.length co71)) (fun _ hk => ⟨hk.1.1, hk.1.2.1⟩), by (with_reducible repeat (first | apply Kd.R_alloc | apply Kd.R_drewN | apply Kd.R_drew)); exact Kd.R_mono (Kd.R_far (p := ⟨gb154, 2, none⟩) (Kd.R_far (p := ⟨gb154, 1, none⟩) (Kd.R_far (p := ⟨gb154, 0, none⟩) (Kd.R_types HO_7.out BK154.out (by first | decide | exact Nat.succ_pos _ | exact ne_of_E rfl (by decide))) (fun _ hk => hk.2) (.int .i64 a0_0)) (fun _ hk => hk.2) (.int .u32 x153001_2)) (fun _ hk => hk.2) (.slice Ao71 x153002_2.length co71)) (fun _ hk => ⟨hk.1.1, hk.1.2.1⟩), by repeat (first | (with_reducible first | exact HB.out | apply below_alloc | apply pw_below_drewN | apply below_drew1 | refine below_set ?_ GE152.out | refine below_set ?_ GE153.out | refine below_set ?_ GE154.out) | exact HB.out), by repeat (first | (with_reducible first | exact HK.out | apply Kept.alloc | apply Kept.drewN | apply Kept.drew | refine Kept.setCell ?_ (.inr GW152.out) _ | refine Kept.setCell ?_ (.inr GW153.out) _ | refine Kept.setCell ?_ (.inr GW154.out) _) | exact HK.out)⟩
                    · rw [if_neg c67] at H
                      have c67b0 : decide (t168 < 0) = false := decide_eq_false c67
                      clear c67
                      by_cases c76 : 0 ≤ t168
                      · rw [if_pos c76] at H
                        have c76b0 : decide (0 ≤ t168) = true := decide_eq_true c76
                        clear c76
                        by_cases c77 : t168 < (x153002_2.length : Int)
                        · rw [if_pos c77] at H
                          have c77b0 : decide (t168 < (x153002_2.length : Int)) = true := decide_eq_true c77
                          clear c77
                          obtain ⟨y170, hy170⟩ : ∃ y_ : List (S37), y_ = (([(⟨(rd_T37 x153002_2 t168).f0, (rd_T37 x153002_2 t168).f1, (rd_T37 x153002_2 t168).f2, (rd_T37 x153002_2 t168).f3, (rd_T37 x153002_2 t168).f4, (rd_T37 x153002_2 t168).f5⟩ : S37)] : List (S37))) := ⟨_, rfl⟩
                          replace H : (if x7_2.length + y170.length < 1954687338268 then ((some (([] : List (S37)) : List (S37))).bind fun y176 => (if t168 ≤ (x153002_2.length : Int) then ((some (x153002_2.take (t168 : Int).toNat : List (S37))).bind fun y179 => (if y176.length + y179.length < 1954687338268 then ((some (y176 ++ y179 : List (S37))).bind fun y183 => (if 0 ≤ (wrap64 (t168 + 1)) then (if (wrap64 (t168 + 1)) ≤ (x153002_2.length : Int) then ((some (x153002_2.drop ((wrap64 (t168 + 1)) : Int).toNat : List (S37))).bind fun y186 => (if y183.length + y186.length < 1954687338268 then (consortref10_Take.l0 k2 (x7_2 ++ y170) a0_0 ((x153001_2 + 1) % 4294967296) (y183 ++ y186)) else (none))) else (none)) else (none))) else (none))) else (none))) else (none)) = some (r1, r2, r3, r4, r5) := by first | (rw [hy170]; with_reducible exact H) | (have H2_ := (Option.bind_some _ _).symm.trans H; rw [hy170]; with_reducible exact H2_) | (have H2_ := (Option.bind_some _ _).symm.trans H; with_reducible exact H2_) | with_reducible exact H | (rw [hy170]; exact H) | exact H
                          have Ny170 := Aside0.mk hy170
                          clear hy170
                          by_cases c78 : x7_2.length + y170.length < 1954687338268
                          · rw [if_pos c78] at H
                            have LMc78 := Aside0.mk c78
                            clear c78
                            obtain ⟨y173, hy173⟩ : ∃ y_ : List (S37), y_ = (x7_2 ++ y170) := ⟨_, rfl⟩
                            replace H : ((some (([] : List (S37)) : List (S37))).bind fun y176 => (if t168 ≤ (x153002_2.length : Int) then ((some (x153002_2.take (t168 : Int).toNat : List (S37))).bind fun y179 => (if y176.length + y179.length < 1954687338268 then ((some (y176 ++ y179 : List (S37))).bind fun y183 => (if 0 ≤ (wrap64 (t168 + 1)) then (if (wrap64 (t168 + 1)) ≤ (x153002_2.length : Int) then ((some (x153002_2.drop ((wrap64 (t168 + 1)) : Int).toNat : List (S37))).bind fun y186 => (if y183.length + y186.length < 1954687338268 then (consortref10_Take.l0 k2 y173 a0_0 ((x153001_2 + 1) % 4294967296) (y183 ++ y186)) else (none))) else (none)) else (none))) else (none))) else (none))) = some (r1, r2, r3, r4, r5) := by first | (rw [hy173]; with_reducible exact H) | (have H2_ := (Option.bind_some _ _).symm.trans H; rw [hy173]; with_reducible exact H2_) | (have H2_ := (Option.bind_some _ _).symm.trans H; with_reducible exact H2_) | with_reducible exact H | (rw [hy173]; exact H) | exact H
                            have Ny173 := Aside0.mk hy173
                            clear hy173
                            obtain ⟨y176, hy176⟩ : ∃ y_ : List (S37), y_ = (([] : List (S37))) := ⟨_, rfl⟩
                            replace H : (if t168 ≤ (x153002_2.length : Int) then ((some (x153002_2.take (t168 : Int).toNat : List (S37))).bind fun y179 => (if y176.length + y179.length < 1954687338268 then ((some (y176 ++ y179 : List (S37))).bind fun y183 => (if 0 ≤ (wrap64 (t168 + 1)) then (if (wrap64 (t168 + 1)) ≤ (x153002_2.length : Int) then ((some (x153002_2.drop ((wrap64 (t168 + 1)) : Int).toNat : List (S37))).bind fun y186 => (if y183.length + y186.length < 1954687338268 then (consortref10_Take.l0 k2 y173 a0_0 ((x153001_2 + 1) % 4294967296) (y183 ++ y186)) else (none))) else (none)) else (none))) else (none))) else (none)) = some (r1, r2, r3, r4, r5) := by first | (rw [hy176]; with_reducible exact H) | (have H2_ := (Option.bind_some _ _).symm.trans H; rw [hy176]; with_reducible exact H2_) | (have H2_ := (Option.bind_some _ _).symm.trans H; with_reducible exact H2_) | with_reducible exact H | (rw [hy176]; exact H) | exact H
                            have Ny176 := Aside0.mk hy176
                            clear hy176
                            have c79b0 := eq_true (of_decide_eq_true (by first | (with_reducible assumption) | assumption) : 0 ≤ t168)
                            by_cases c80 : t168 ≤ (x153002_2.length : Int)
                            · rw [if_pos c80] at H
                              have c80b0 := eq_true c80
                              have c80b1 : decide (t168 ≤ (x153002_2.length : Int)) = true := decide_eq_true c80
                              clear c80
                              obtain ⟨y179, hy179⟩ : ∃ y_ : List (S37), y_ = (x153002_2.take (t168 : Int).toNat) := ⟨_, rfl⟩
                              replace H : (if y176.length + y179.length < 1954687338268 then ((some (y176 ++ y179 : List (S37))).bind fun y183 => (if 0 ≤ (wrap64 (t168 + 1)) then (if (wrap64 (t168 + 1)) ≤ (x153002_2.length : Int) then ((some (x153002_2.drop ((wrap64 (t168 + 1)) : Int).toNat : List (S37))).bind fun y186 => (if y183.length + y186.length < 1954687338268 then (consortref10_Take.l0 k2 y173 a0_0 ((x153001_2 + 1) % 4294967296) (y183 ++ y186)) else (none))) else (none)) else (none))) else (none)) = some (r1, r2, r3, r4, r5) := by first | (rw [hy179]; with_reducible exact H) | (have H2_ := (Option.bind_some _ _).symm.trans H; rw [hy179]; with_reducible exact H2_) | (have H2_ := (Option.bind_some _ _).symm.trans H; with_reducible exact H2_) | with_reducible exact H | (rw [hy179]; exact H) | exact H
                              have Ny179 := Aside0.mk hy179
                              clear hy179
                              by_cases c81 : y176.length + y179.length < 1954687338268
                              · rw [if_pos c81] at H
                                have LMc81 := Aside0.mk c81
                                clear c81
                                obtain ⟨y183, hy183⟩ : ∃ y_ : List (S37), y_ = (y176 ++ y179) := ⟨_, rfl⟩
                                replace H : (if 0 ≤ (wrap64 (t168 + 1)) then (if (wrap64 (t168 + 1)) ≤ (x153002_2.length : Int) then ((some (x153002_2.drop ((wrap64 (t168 + 1)) : Int).toNat : List (S37))).bind fun y186 => (if y183.length + y186.length < 1954687338268 then (consortref10_Take.l0 k2 y173 a0_0 ((x153001_2 + 1) % 4294967296) (y183 ++ y186)) else (none))) else (none)) else (none)) = some (r1, r2, r3, r4, r5) := by first | (rw [hy183]; with_reducible exact H) | (have H2_ := (Option.bind_some _ _).symm.trans H; rw [hy183]; with_reducible exact H2_) | (have H2_ := (Option.bind_some _ _).symm.trans H; with_reducible exact H2_) | with_reducible exact H | (rw [hy183]; exact H) | exact H
                                have Ny183 := Aside0.mk hy183
                                clear hy183
                                obtain ⟨ji82, hji82⟩ : ∃ j_ : Int, (wrap64 (t168 + 1)) = j_ := ⟨_, rfl⟩
                                replace H : (if 0 ≤ (ji82) then (if (ji82) ≤ (x153002_2.length : Int) then ((some (x153002_2.drop ((ji82) : Int).toNat : List (S37))).bind fun y186 => (if y183.length + y186.length < 1954687338268 then (consortref10_Take.l0 k2 y173 a0_0 ((x153001_2 + 1) % 4294967296) (y183 ++ y186)) else (none))) else (none)) else (none)) = some (r1, r2, r3, r4, r5) := by first | (rw [hji82] at H; exact H) | (simp only [hji82] at H ⊢; exact H)
                                (try rw [hji82] at A66)
                                have hji82w : (IntKind.i64.wrap (t168 + 1)) = ji82 := (i64_w _).trans hji82
                                by_cases c83 : 0 ≤ (ji82)
                                · rw [if_pos c83] at H
                                  have c83b0 := eq_true c83
                                  have c83b1 : decide (0 ≤ (ji82)) = true := decide_eq_true c83
                                  clear c83
                                  by_cases c84 : (ji82) ≤ (x153002_2.length : Int)
                                  · rw [if_pos c84] at H
                                    have c84b0 := eq_true c84
                                    have c84b1 : decide ((ji82) ≤ (x153002_2.length : Int)) = true := decide_eq_true c84
                                    clear c84
                                    obtain ⟨y186, hy186⟩ : ∃ y_ : List (S37), y_ = (x153002_2.drop ((ji82) : Int).toNat) := ⟨_, rfl⟩
                                    replace H : (if y183.length + y186.length < 1954687338268 then (consortref10_Take.l0 k2 y173 a0_0 ((x153001_2 + 1) % 4294967296) (y183 ++ y186)) else (none)) = some (r1, r2, r3, r4, r5) := by first | (rw [hy186]; with_reducible exact H) | (have H2_ := (Option.bind_some _ _).symm.trans H; rw [hy186]; with_reducible exact H2_) | (have H2_ := (Option.bind_some _ _).symm.trans H; with_reducible exact H2_) | with_reducible exact H | (rw [hy186]; exact H) | exact H
                                    have Ny186 := Aside0.mk hy186
                                    clear hy186
                                    by_cases c85 : y183.length + y186.length < 1954687338268
                                    · rw [if_pos c85] at H
                                      have LMc85 := Aside0.mk c85
                                      clear c85
                                      obtain ⟨y190, hy190⟩ : ∃ y_ : List (S37), y_ = (y183 ++ y186) := ⟨_, rfl⟩
                                      replace H : (consortref10_Take.l0 k2 y173 a0_0 ((x153001_2 + 1) % 4294967296) y190) = some (r1, r2, r3, r4, r5) := by first | (rw [hy190]; with_reducible exact H) | (have H2_ := (Option.bind_some _ _).symm.trans H; rw [hy190]; with_reducible exact H2_) | (have H2_ := (Option.bind_some _ _).symm.trans H; with_reducible exact H2_) | with_reducible exact H | (rw [hy190]; exact H) | exact H
                                      have Ny190 := Aside0.mk hy190
                                      clear hy190
                                      have H' := Aside0.mk H
                                      clear H
                                      have hnb86 := NB152_153.out
                                      have hnc86 := NB153_152.out
                                      have hnb87 := NB152_154.out
                                      have hnc87 := NB154_152.out
                                      have hcz88_0 : wr.cell? ⟨gb152, 0, none⟩ = some (.int .i64 a0_0) := (blk_cell BK152.out 0).trans rfl
                                      have hcz88_1 : wr.cell? ⟨gb152, 1, none⟩ = some (.int .u32 x153001_2) := (blk_cell BK152.out 1).trans rfl
                                      have hcz88_2 : wr.cell? ⟨gb152, 2, none⟩ = some (u153002) := (blk_cell BK152.out 2).trans rfl
                                      have hfz88_0 := blk_frozen BK152.out 0
                                      have hfz88_1 := blk_frozen BK152.out 1
                                      have hfz88_2 := blk_frozen BK152.out 2
                                      obtain ⟨Ao89, co89, eo89⟩ := Kd.R_slice HO_153002.out
                                      subst eo89
                                      try go_wp2_with (first | ((with_reducible refine gate_callee (f := 20) rfl ?_); refine goesL_ (some 49) rfl rfl Try.func20 (by kernel_rfl) rfl #[.agg #[.int .i64 a0_0, .int .u32 x153001_2, .slice Ao89 x153002_2.length co89], .int .u32 ((x153001_2 + 1) % 4294967296)] rfl (by (try simp only [List.map_toArray, List.map_cons, List.map_nil]); first | done | rfl | (simp only [List.length_drop, List.length_take]; rfl)) ?_; (with_reducible refine (consortref10_find.calls k2 a0_0 x153001_2 _ _ x153002_2 ((x153001_2 + 1) % 4294967296) t168 _ ?side1 ?side2 A66.out).mono ?_); (case side1 => repeat (first | exact (Kd.R_reads' HO_153002.out).2.2 | (with_reducible refine Kd.C_alloc ?_ _) | (with_reducible refine Kd.C_drewN ?_ _) | (with_reducible refine Kd.C_drew ?_))); (case side2 => exact (Kd.R_reads' HO_153002.out).2.1); rintro e w90 ⟨rfl, hb⟩; refine ⟨_, rfl, ?_⟩; have n0_ := Aside0.mk (Kd.R_below (by (with_reducible repeat (first | apply Kd.R_alloc | apply Kd.R_drewN | apply Kd.R_drew)); exact HO_7.out) hb); have n1_ := Aside0.mk (Kd.R_below (by (with_reducible repeat (first | apply Kd.R_alloc | apply Kd.R_drewN | apply Kd.R_drew)); exact HO_153002.out) hb); have n2_ := Aside0.mk (blk_below (g := gb152) (o := .cells #[.int .i64 a0_0, .int .u32 x153001_2, .slice Ao89 x153002_2.length co89] 29 (0, 0)) (by (with_reducible repeat (first | refine blk_drewN ?_ _ | refine blk_drew ?_ | refine blk_alloc ?_ _)); exact BK152.out) hb); have n3_ := Aside0.mk (blk_below (g := gb153) (o := .cells #[.int .i64 a1_0, .int .u32 a1_1, .int .u64 a1_2, .int .i64 a1_3, .slice a1_4.A a1_4.n a1_4.c, .string a1_5] 37 (0, 0)) (by (with_reducible repeat (first | refine blk_drewN ?_ _ | refine blk_drew ?_ | refine blk_alloc ?_ _)); exact BK153.out) hb); have n4_ := Aside0.mk (blk_below (g := gb154) (o := .cells #[.int .i64 x155000_2, .int .u32 x155001_2, .slice none 0 0] 29 (0, 0)) (by (with_reducible repeat (first | refine blk_drewN ?_ _ | refine blk_drew ?_ | refine blk_alloc ?_ _)); exact BK154.out) hb); have n5_ := Aside0.mk (Kept.below (S := (fun k_ => P0_2_ k_)) (by repeat (first | (with_reducible first | exact HK.out | apply Kept.alloc | apply Kept.drewN | apply Kept.drew | refine Kept.setCell ?_ (.inr GW152.out) _ | refine Kept.setCell ?_ (.inr GW153.out) _ | refine Kept.setCell ?_ (.inr GW154.out) _) | exact HK.out)) hb); have n6_ := Aside0.mk (below_step (by repeat (first | (with_reducible first | exact HB.out | apply below_alloc | apply pw_below_drewN | apply below_drew1 | refine below_set ?_ GE152.out | refine below_set ?_ GE153.out | refine below_set ?_ GE154.out) | exact HB.out)) hb); clear HO_7; clear HO_153002; clear BK152; clear BK153; clear BK154; clear HK; clear HB; have HO_7 := n0_; have HO_153002 := n1_; have BK152 := n2_; have BK153 := n3_; have BK154 := n4_; have HK := n5_; have HB := n6_; clear n0_ n1_ n2_ n3_ n4_ n5_ n6_; (try clear hb); (try clear hb2); (try clear hk); (try clear hi); have hcz91_0 : w90.cell? ⟨gb152, 0, none⟩ = some (.int .i64 a0_0) := (blk_cell BK152.out 0).trans rfl; have hcz91_1 : w90.cell? ⟨gb152, 1, none⟩ = some (.int .u32 x153001_2) := (blk_cell BK152.out 1).trans rfl; have hcz91_2 : w90.cell? ⟨gb152, 2, none⟩ = some (.slice Ao89 x153002_2.length co89) := (blk_cell BK152.out 2).trans rfl; have hfz91_0 := blk_frozen BK152.out 0; have hfz91_1 := blk_frozen BK152.out 1; have hfz91_2 := blk_frozen BK152.out 2; have p169 : 0 ≤ (t168 : Int) := of_decide_eq_true (by first | (with_reducible assumption) | assumption); have q169 : t168 < (x153002_2.length : Int) := of_decide_eq_true (by first | (with_reducible assumption) | assumption); obtain ⟨ad169, e169, hx169_0, hx169_1, hx169_2, hx169_3, hx169_4, hx169_5⟩ := at_T37 (Kd.R_reads' HO_153002.out).2.2 t168 p169 q169; cases e169; replace p169 := eq_true p169; replace q169 := eq_true q169) | ((with_reducible refine gate_dst (N := 60) rfl ?_); refine Kd.R_lit k37 _ 37 ?hg (N := 60) ?hd (xs := ([(⟨(rd_T37 x153002_2 t168).f0, (rd_T37 x153002_2 t168).f1, (rd_T37 x153002_2 t168).f2, (rd_T37 x153002_2 t168).f3, (rd_T37 x153002_2 t168).f4, (rd_T37 x153002_2 t168).f5⟩ : S37)] : List (S37))) (inner := [.int .i64 ((rd_T37 x153002_2 t168).f0), .int .u32 ((rd_T37 x153002_2 t168).f1), .int .u64 ((rd_T37 x153002_2 t168).f2), .int .i64 ((rd_T37 x153002_2 t168).f3), .slice ((rd_T37 x153002_2 t168).f4).A ((rd_T37 x153002_2 t168).f4).n ((rd_T37 x153002_2 t168).f4).c, .string ((rd_T37 x153002_2 t168).f5)]) (ok := fun _ => True) (okp := fun _ => True) ?hr ?hp (fun _ hk => hk) trivial (Below.refl _ _) (Nat.le_refl _) (by simp) ?_; (case hd => rfl); (case hg => rfl); (case hr => first | (go_simp; done) | (go_simp; rfl)); (case hp => exact (Reps.c6 (show Kd.M k37 _ _ _ (⟨(rd_T37 x153002_2 t168).f0, (rd_T37 x153002_2 t168).f1, (rd_T37 x153002_2 t168).f2, (rd_T37 x153002_2 t168).f3, (rd_T37 x153002_2 t168).f4, (rd_T37 x153002_2 t168).f5⟩ : S37) [.int .i64 ((rd_T37 x153002_2 t168).f0), .int .u32 ((rd_T37 x153002_2 t168).f1), .int .u64 ((rd_T37 x153002_2 t168).f2), .int .i64 ((rd_T37 x153002_2 t168).f3), .slice ((rd_T37 x153002_2 t168).f4).A ((rd_T37 x153002_2 t168).f4).n ((rd_T37 x153002_2 t168).f4).c, .string ((rd_T37 x153002_2 t168).f5)] from (k37_mkM _ _ _ (⟨(rd_T37 x153002_2 t168).f0, (rd_T37 x153002_2 t168).f1, (rd_T37 x153002_2 t168).f2, (rd_T37 x153002_2 t168).f3, (rd_T37 x153002_2 t168).f4, (rd_T37 x153002_2 t168).f5⟩ : S37) )) (Reps.none _ _))); intro v171 w92 ho93 hb hg_ hnew_; clear hg_ hnew_; (first | rw [← Ny170.out] at ho93 | (simp only [Int.reduceToNat] at ho93; rw [← Ny170.out] at ho93)); have n0_ := Aside0.mk (Kd.R_elder' (by (with_reducible repeat (first | apply Kd.R_alloc | apply Kd.R_drewN | apply Kd.R_drew)); exact HO_7.out) (Kd.R_base ho93) hb); have n1_ := Aside0.mk (Kd.R_elder' (by (with_reducible repeat (first | apply Kd.R_alloc | apply Kd.R_drewN | apply Kd.R_drew)); exact HO_153002.out) (Kd.R_base ho93) hb); have n2_ := Aside0.mk (Kd.R_lower (Kd.R_newB (Kd.R_new' (Kd.R_new' (Kd.R_newM (M := fun k_ => (P0_2_ k_ ∨ w.heap.size ≤ k_)) ho93 (by first | exact HK.out.1 | exact (show Kept w _ (fun k_ => P0_2_ k_) from by repeat (first | (with_reducible first | exact HK.out | apply Kept.alloc | apply Kept.drewN | apply Kept.drew | refine Kept.setCell ?_ (.inr GW152.out) _ | refine Kept.setCell ?_ (.inr GW153.out) _ | refine Kept.setCell ?_ (.inr GW154.out) _) | exact HK.out)).1) (fun k_ h_ => .inr h_)) (Kd.R_lt (by (with_reducible repeat (first | apply Kd.R_alloc | apply Kd.R_drewN | apply Kd.R_drew)); exact HO_7.out))) (Kd.R_lt (by (with_reducible repeat (first | apply Kd.R_alloc | apply Kd.R_drewN | apply Kd.R_drew)); exact HO_153002.out))) (g := gb153) (o := .cells #[.int .i64 a1_0, .int .u32 a1_1, .int .u64 a1_2, .int .i64 a1_3, .slice a1_4.A a1_4.n a1_4.c, .string a1_5] 37 (0, 0)) (by (with_reducible repeat (first | refine blk_drewN ?_ _ | refine blk_drew ?_ | refine blk_alloc ?_ _)); exact BK153.out)) (below_size (by repeat (first | (with_reducible first | exact HB.out | apply below_alloc | apply pw_below_drewN | apply below_drew1 | refine below_set ?_ GE152.out | refine below_set ?_ GE153.out | refine below_set ?_ GE154.out) | exact HB.out)))); have n3_ := Aside0.mk (blk_below (g := gb152) (o := .cells #[.int .i64 a0_0, .int .u32 x153001_2, .slice (some ad169) x153002_2.length co89] 29 (0, 0)) (by (with_reducible repeat (first | refine blk_drewN ?_ _ | refine blk_drew ?_ | refine blk_alloc ?_ _)); exact BK152.out) hb); have n4_ := Aside0.mk (blk_below (g := gb153) (o := .cells #[.int .i64 a1_0, .int .u32 a1_1, .int .u64 a1_2, .int .i64 a1_3, .slice a1_4.A a1_4.n a1_4.c, .string a1_5] 37 (0, 0)) (by (with_reducible repeat (first | refine blk_drewN ?_ _ | refine blk_drew ?_ | refine blk_alloc ?_ _)); exact BK153.out) hb); have n5_ := Aside0.mk (blk_below (g := gb154) (o := .cells #[.int .i64 x155000_2, .int .u32 x155001_2, .slice none 0 0] 29 (0, 0)) (by (with_reducible repeat (first | refine blk_drewN ?_ _ | refine blk_drew ?_ | refine blk_alloc ?_ _)); exact BK154.out) hb); have n6_ := Aside0.mk (Kept.below (S := (fun k_ => P0_2_ k_)) (by repeat (first | (with_reducible first | exact HK.out | apply Kept.alloc | apply Kept.drewN | apply Kept.drew | refine Kept.setCell ?_ (.inr GW152.out) _ | refine Kept.setCell ?_ (.inr GW153.out) _ | refine Kept.setCell ?_ (.inr GW154.out) _) | exact HK.out)) hb); have n7_ := Aside0.mk (below_step (by repeat (first | (with_reducible first | exact HB.out | apply below_alloc | apply pw_below_drewN | apply below_drew1 | refine below_set ?_ GE152.out | refine below_set ?_ GE153.out | refine below_set ?_ GE154.out) | exact HB.out)) hb); clear HO_7; clear HO_153002; clear BK152; clear BK153; clear BK154; clear HK; clear HB; have HO_7 := n0_; have HO_153002 := n1_; have HO172 := n2_; have BK152 := n3_; have BK153 := n4_; have BK154 := n5_; have HK := n6_; have HB := n7_; clear n0_ n1_ n2_ n3_ n4_ n5_ n6_ n7_; clear hb ho93; obtain ⟨Ao95, co95, eo95⟩ := Kd.R_slice HO172.out; subst eo95) | ((with_reducible refine gate_builtin (b := .append) (xs := #[.tmp 54, .tmp 60]) rfl ?_); at_builtin; refine Kd.R_append_rows k37 (w0 := w0) w0.heap.size rfl (.tmp 54) (.tmp 60) 22 37 (.agg #[(.int .i64 0), (.int .u32 0), (.int .u64 0), (.int .i64 0), (.slice none 0 0), (.string ⟨#[]⟩)]) 72 rfl Try.underlying22 info37 rfl (by first | decide | exact Nat.succ_pos _ | exact ne_of_E rfl (by decide)) (by omega) u7 x7_2 y170 _ _ _ (fun k_ => (P0_2_ k_ ∨ w.heap.size ≤ k_) ∧ some k_ ≠ (.slice (some ad169) x153002_2.length co89 : Value).ownBlock ∧ some k_ ≠ (.slice Ao95 y170.length co95 : Value).ownBlock ∧ k_ ≠ gb153) (fun _ => False) rfl rfl ?aO ?aR (fun _ _ h => h) (fun _ h => h.elim) ?aF ?aB ?aS ?aL ?_; (case aR => repeat (first | exact (Kd.R_reads' HO172.out).2.2 | (with_reducible refine Kd.C_alloc ?_ _) | (with_reducible refine Kd.C_drewN ?_ _) | (with_reducible refine Kd.C_drew ?_))); (case aB => exact (by repeat (first | (with_reducible first | exact HB.out | apply below_alloc | apply pw_below_drewN | apply below_drew1 | refine below_set ?_ GE152.out | refine below_set ?_ GE153.out | refine below_set ?_ GE154.out) | exact HB.out))); (case aF => exact (fun k_ hk => ⟨(.inr (Nat.le_trans (by first | exact HK.out.1 | exact (show Kept w _ (fun k_ => P0_2_ k_) from by repeat (first | (with_reducible first | exact HK.out | apply Kept.alloc | apply Kept.drewN | apply Kept.drew | refine Kept.setCell ?_ (.inr GW152.out) _ | refine Kept.setCell ?_ (.inr GW153.out) _ | refine Kept.setCell ?_ (.inr GW154.out) _) | exact HK.out)).1) hk)), Kd.fresh' (Kd.R_lt (by (with_reducible repeat (first | apply Kd.R_alloc | apply Kd.R_drewN | apply Kd.R_drew)); exact HO_153002.out)) k_ hk, Kd.fresh' (Kd.R_lt (by (with_reducible repeat (first | apply Kd.R_alloc | apply Kd.R_drewN | apply Kd.R_drew)); exact HO172.out)) k_ hk, Kd.freshB (g := gb153) (o := .cells #[.int .i64 a1_0, .int .u32 a1_1, .int .u64 a1_2, .int .i64 a1_3, .slice a1_4.A a1_4.n a1_4.c, .string a1_5] 37 (0, 0)) (by (with_reducible repeat (first | refine blk_drewN ?_ _ | refine blk_drew ?_ | refine blk_alloc ?_ _)); exact BK153.out) k_ hk⟩)); (case aO => exact (by (with_reducible repeat (first | apply Kd.R_alloc | apply Kd.R_drewN | apply Kd.R_drew)); exact Kd.R_mono HO_7.out (fun _ hk => ⟨hk.1.1, ⟨hk.1.2.1, ⟨hk.2, hk.1.2.2⟩⟩⟩))); (case aS => exact (below_size (by repeat (first | (with_reducible first | exact HB.out | apply below_alloc | apply pw_below_drewN | apply below_drew1 | refine below_set ?_ GE152.out | refine below_set ?_ GE153.out | refine below_set ?_ GE154.out) | exact HB.out)))); (case aL => have := LMc78.out; omega); intro v174 w94 ho hb hg hat; rw [← Ny173.out] at ho; have n0_ := Aside0.mk (Kd.R_after (ok := (fun k_ => (P0_2_ k_ ∨ w.heap.size ≤ k_) ∧ some k_ ≠ (.slice Ao95 y170.length co95 : Value).ownBlock ∧ k_ ≠ gb153)) (by (with_reducible repeat (first | apply Kd.R_alloc | apply Kd.R_drewN | apply Kd.R_drew)); exact Kd.R_mono HO_153002.out (fun _ hk => ⟨⟨hk.1.1, ⟨hk.2, hk.1.2.2⟩⟩, hk.1.2.1⟩)) hg hat); have n1_ := Aside0.mk (blk_grown (g := gb152) (o := .cells #[.int .i64 a0_0, .int .u32 x153001_2, .slice (some ad169) x153002_2.length co89] 29 (0, 0)) (by (with_reducible repeat (first | refine blk_drewN ?_ _ | refine blk_drew ?_ | refine blk_alloc ?_ _)); exact BK152.out) hg (Kd.R_ne HO_7.out BK152.out (by first | decide | exact Nat.succ_pos _ | exact ne_of_E rfl (by decide)))); have n2_ := Aside0.mk (blk_grown (g := gb153) (o := .cells #[.int .i64 a1_0, .int .u32 a1_1, .int .u64 a1_2, .int .i64 a1_3, .slice a1_4.A a1_4.n a1_4.c, .string a1_5] 37 (0, 0)) (by (with_reducible repeat (first | refine blk_drewN ?_ _ | refine blk_drew ?_ | refine blk_alloc ?_ _)); exact BK153.out) hg (Kd.R_away HO_7.out (fun _ hk => hk.1.2.2))); have n3_ := Aside0.mk (blk_grown (g := gb154) (o := .cells #[.int .i64 x155000_2, .int .u32 x155001_2, .slice none 0 0] 29 (0, 0)) (by (with_reducible repeat (first | refine blk_drewN ?_ _ | refine blk_drew ?_ | refine blk_alloc ?_ _)); exact BK154.out) hg (Kd.R_ne HO_7.out BK154.out (by first | decide | exact Nat.succ_pos _ | exact ne_of_E rfl (by decide)))); have n4_ := Aside0.mk (Kd.R_after (ok := (fun k_ => (P0_2_ k_ ∨ w.heap.size ≤ k_) ∧ some k_ ≠ (.slice (some ad169) x153002_2.length co89 : Value).ownBlock ∧ k_ ≠ gb153)) (by (with_reducible repeat (first | apply Kd.R_alloc | apply Kd.R_drewN | apply Kd.R_drew)); exact Kd.R_mono HO172.out (fun _ hk => ⟨⟨hk.1.1.1.1, ⟨hk.1.2, hk.2⟩⟩, hk.1.1.2⟩)) hg hat); have n5_ := Aside0.mk (hb); have n6_ := Aside0.mk (Kept.of_grown (S := (fun k_ => P0_2_ k_)) hg (by repeat (first | (with_reducible first | exact HK.out | apply Kept.alloc | apply Kept.drewN | apply Kept.drew | refine Kept.setCell ?_ (.inr GW152.out) _ | refine Kept.setCell ?_ (.inr GW153.out) _ | refine Kept.setCell ?_ (.inr GW154.out) _) | exact HK.out)) (fun k_ e_ => (HO_7.out.1 k_ e_).1.1)); have n7_ := Aside0.mk (ho); clear HO_153002; clear BK152; clear BK153; clear BK154; clear HO172; clear HB; clear HK; clear HO_7; have HO_153002 := n0_; have BK152 := n1_; have BK153 := n2_; have BK154 := n3_; have HO172 := n4_; have HB := n5_; have HK := n6_; have HO175 := n7_; clear n0_ n1_ n2_ n3_ n4_ n5_ n6_ n7_; clear ho hb hg hat))
                                      have n0_ := Aside0.mk (Kd.R_drew HO_153002.out)
                                      have n1_ := Aside0.mk (Kd.R_drew HO172.out)
                                      have n2_ := Aside0.mk (Kd.R_drew HO175.out)
                                      have n3_ := Aside0.mk (blk_drew BK152.out)
                                      have n4_ := Aside0.mk (blk_drew BK153.out)
                                      have n5_ := Aside0.mk (blk_drew BK154.out)
                                      have n6_ := Aside0.mk (Kept.drew HK.out)
                                      have n7_ := Aside0.mk (below_drew1 HB.out)
                                      clear HO_153002
                                      clear HO172
                                      clear HO175
                                      clear BK152
                                      clear BK153
                                      clear BK154
                                      clear HK
                                      clear HB
                                      have HO_153002 := n0_
                                      have HO172 := n1_
                                      have HO175 := n2_
                                      have BK152 := n3_
                                      have BK153 := n4_
                                      have BK154 := n5_
                                      have HK := n6_
                                      have HB := n7_
                                      clear n0_ n1_ n2_ n3_ n4_ n5_ n6_ n7_
                                      have q97 : (t168 : Int) ≤ ((x153002_2.length : Int) : Int) := of_decide_eq_true (by first | (with_reducible assumption) | assumption)
                                      obtain ⟨i097, hi097, _, hsz97, _⟩ := info_parts info37
                                      have hroom97 : x153002_2.length ≤ co89 := (Kd.R_reads' HO_153002.out).2.1
                                      have hC97 : Kd.C k37 _ (some ad169) x153002_2.length x153002_2 := (Kd.R_reads' HO_153002.out).2.2
                                      have hcut97 := cut_to (P := Try.prog) 22 37 .i64 Try.underlying22 hi097 (some ad169) x153002_2.length co89 t168 (of_decide_eq_true (by first | (with_reducible assumption) | assumption)) q97 hroom97
                                      have hr97 := Kd.C_take (m := (t168 : Int).toNat) hC97 (by omega)
                                      have hy97 : y179.length = (t168 : Int).toNat := (by rw [Ny179.out, List.length_take]; omega)
                                      rw [← Ny179.out] at hr97
                                      rw [← hy97] at hcut97
                                      have HR182 := Aside0.mk hr97
                                      have HC182 := Aside0.mk (show y179.length ≤ co89 from by omega)
                                      clear hr97 hC97 hroom97 hi097 hsz97
                                      have KY97 := Aside0.mk hy97
                                      clear hy97
                                      have KL97 := Aside0.mk (show (t168 : Int).toNat ≤ x153002_2.length from by omega)
                                      replace q97 := eq_true q97
                                      have q98 : ((ji82) : Int) ≤ ((x153002_2.length : Int) : Int) := of_decide_eq_true (by first | (with_reducible assumption) | assumption)
                                      obtain ⟨i098, hi098, _, hsz98, _⟩ := info_parts info37
                                      have hroom98 : x153002_2.length ≤ co89 := (Kd.R_reads' HO_153002.out).2.1
                                      have hC98 : Kd.C k37 _ (some ad169) x153002_2.length x153002_2 := (Kd.R_reads' HO_153002.out).2.2
                                      have q098 : (0 : Int) ≤ ((ji82) : Int) := of_decide_eq_true (by first | (with_reducible assumption) | assumption)
                                      have hcut98 := cut_from (P := Try.prog) 22 37 .i64 Try.underlying22 hi098 6 hsz98 (some ad169) x153002_2.length co89 (ji82) q098 q98
                                      have hr98 := Kd.C_drop (m := ((ji82) : Int).toNat) (c := co89) hC98 (by omega) hroom98
                                      obtain ⟨A98, hA98⟩ : ∃ A1, A1 = (if co89 = ((ji82) : Int).toNat then (some ad169) else ((some ad169) : Option Addr).map (·.add (((ji82) : Int).toNat * 6))) := ⟨_, rfl⟩
                                      obtain ⟨c98, hc98⟩ : ∃ c1, c1 = co89 - ((ji82) : Int).toNat := ⟨_, rfl⟩
                                      have hy98 : y186.length = x153002_2.length - ((ji82) : Int).toNat := (by rw [Ny186.out, List.length_drop] <;> omega)
                                      rw [show (x153002_2).drop ((ji82) : Int).toNat = y186 from Ny186.out.symm] at hr98
                                      replace hr98 : Kd.C k37 _ A98 y186.length y186 := (by rw [hA98]; exact hr98)
                                      rw [← hy98, ← hA98, ← hc98] at hcut98
                                      have HR189 := Aside0.mk hr98
                                      have HC189 := Aside0.mk (show y186.length ≤ c98 from by rw [hy98, hc98]; exact Nat.sub_le_sub_right hroom98 _)
                                      clear hr98 hC98 hroom98 hi098 hsz98 hc98
                                      have KY98 := Aside0.mk hy98
                                      have KA98 := Aside0.mk hA98
                                      clear hy98 hA98
                                      have KL98 := Aside0.mk (show ((ji82) : Int).toNat ≤ x153002_2.length from by omega)
                                      replace q98 := eq_true q98
                                      refine start_ (n := 14) (S := fun w' => w'.cell? ⟨gb152, 0, none⟩ = some (.int .i64 a0_0) ∧ w'.cell? ⟨gb152, 1, none⟩ = some (.int .u32 x153001_2) ∧ w'.cell? ⟨gb152, 2, none⟩ = some (.slice (some ad169) x153002_2.length co89)) (ds := [13]) #[false, false, false, false, false, false, false, false, false, false, false, false, false, false] (by kernel_rfl) rfl rfl ⟨(blk_cell BK152.out 0).trans rfl, (blk_cell BK152.out 1).trans rfl, (blk_cell BK152.out 2).trans rfl⟩ (fun hHeld => ?_); refine with_tabW consortref10_Take.tab13 consortref10_Take.bits13 (fun HT_ HW_ => ?_)
                                      generalize w94.drew = w96 at HO_153002 HO172 HO175 BK152 BK153 BK154 HK HB HR182 HR189 hHeld ⊢
                                      refine pure_ (i := 1) (N := some 63) (v := ?_) (a' := ?_) #[false, true, false, false, false, false, false, false, false, false, false, false, false, false] rfl rfl (any_of HT_.out (by kernel_rfl)) (fun _ _ _ h => h) (Or.inl ⟨by rfl, ?_⟩) ?_ ?_
                                      rotate_left
                                      · intro w'
                                        go_simp
                                        with_reducible rfl
                                      rotate_left
                                      · simp only [Act.put, List.setIfInBounds_toArray, List.set_cons_zero, List.set_cons_succ, i64_w, i32_w]
                                        rfl
                                      refine pure_ (i := 3) (N := some 65) (v := ?_) (a' := ?_) #[false, true, false, true, false, false, false, false, false, false, false, false, false, false] rfl rfl (any_of HT_.out (by kernel_rfl)) (fun _ _ _ h => h) (Or.inl ⟨by rfl, ?_⟩) ?_ ?_
                                      rotate_left
                                      · intro w'
                                        go_simp
                                        with_reducible rfl
                                      rotate_left
                                      · simp only [Act.put, List.setIfInBounds_toArray, List.set_cons_zero, List.set_cons_succ, i64_w, i32_w]
                                        rfl
                                      refine pure_ (i := 6) (N := some 68) (v := ?_) (a' := ?_) #[false, true, false, true, false, false, true, false, false, false, false, false, false, false] rfl rfl (any_of HT_.out (by kernel_rfl)) (fun _ _ _ h => h) (Or.inl ⟨by rfl, ?_⟩) ?_ ?_
                                      rotate_left
                                      · intro w'
                                        go_simp
                                        with_reducible rfl
                                      rotate_left
                                      · simp only [Act.put, List.setIfInBounds_toArray, List.set_cons_zero, List.set_cons_succ, i64_w, i32_w]
                                        rfl
                                      refine pure_ (i := 8) (N := some 70) (v := ?_) (a' := ?_) #[false, true, false, true, false, false, true, false, true, false, false, false, false, false] rfl rfl (any_of HT_.out (by kernel_rfl)) (fun _ _ _ h => h) (Or.inl ⟨by rfl, ?_⟩) ?_ ?_
                                      rotate_left
                                      · intro w'
                                        go_simp
                                        with_reducible rfl
                                      rotate_left
                                      · simp only [Act.put, List.setIfInBounds_toArray, List.set_cons_zero, List.set_cons_succ, i64_w, i32_w]
                                        rfl
                                      refine pure_ (i := 9) (N := some 71) (v := ?_) (a' := ?_) #[false, true, false, true, false, false, true, false, true, true, false, false, false, false] rfl rfl (any_of HT_.out (by kernel_rfl)) (fun _ _ _ h => h) (Or.inl ⟨by rfl, ?_⟩) ?_ ?_
                                      rotate_left
                                      · intro w'
                                        go_simp
                                        with_reducible rfl
                                      rotate_left
                                      · simp only [Act.put, List.setIfInBounds_toArray, List.set_cons_zero, List.set_cons_succ, i64_w, i32_w]
                                        rfl
                                      refine take_ (i := 2) (N := some 64) (v := ?_) (a' := ?_) #[false, true, true, true, false, false, true, false, true, true, false, false, false, false] rfl rfl (take_ofW HT_.out HW_.out (by kernel_rfl)) (fun _ _ _ h => h) (Or.inl ⟨by rfl, ?_⟩) hHeld ?_ ?_
                                      rotate_left
                                      · rintro w' ⟨s0, s1, s2⟩
                                        go_simp
                                        with_reducible rfl
                                      rotate_left
                                      · simp only [Act.put, List.setIfInBounds_toArray, List.set_cons_zero, List.set_cons_succ, i64_w, i32_w]
                                        rfl
                                      refine pure_ (i := 4) (N := some 66) (v := ?_) (a' := ?_) #[false, true, true, true, true, false, true, false, true, true, false, false, false, false] rfl rfl (any_of HT_.out (by kernel_rfl)) (fun _ _ _ h => h) (Or.inl ⟨by rfl, ?_⟩) ?_ ?_
                                      rotate_left
                                      · intro w'
                                        go_simp
                                        with_reducible rfl
                                      rotate_left
                                      · simp only [Act.put, List.setIfInBounds_toArray, List.set_cons_zero, List.set_cons_succ, i64_w, i32_w]
                                        rfl
                                      refine take_ (i := 7) (N := some 69) (v := ?_) (a' := ?_) #[false, true, true, true, true, false, true, true, true, true, false, false, false, false] rfl rfl (take_ofW HT_.out HW_.out (by kernel_rfl)) (fun _ _ _ h => h) (Or.inl ⟨by rfl, ?_⟩) hHeld ?_ ?_
                                      rotate_left
                                      · rintro w' ⟨s0, s1, s2⟩
                                        go_simp
                                        with_reducible rfl
                                      rotate_left
                                      · simp only [Act.put, List.setIfInBounds_toArray, List.set_cons_zero, List.set_cons_succ, i64_w, i32_w]
                                        rfl
                                      refine pure_ (i := 10) (N := some 72) (v := ?_) (a' := ?_) #[false, true, true, true, true, false, true, true, true, true, true, false, false, false] rfl rfl (any_of HT_.out (by kernel_rfl)) (fun _ _ _ h => h) (Or.inl ⟨by rfl, ?_⟩) ?_ ?_
                                      rotate_left
                                      · intro w'
                                        go_simp
                                        with_reducible rfl
                                      rotate_left
                                      · simp only [Act.put, List.setIfInBounds_toArray, List.set_cons_zero, List.set_cons_succ, i64_w, i32_w]
                                        rfl
                                      refine one_ (i := 0) (N := some 62) #[true, true, true, true, true, false, true, true, true, true, true, false, false, false] rfl rfl (one_of HT_.out (by kernel_rfl)) (by first | decide | exact Nat.succ_pos _ | exact ne_of_E rfl (by decide)) (fun K hK => ?_)
                                      refine Kd.R_lit_step k37 _ 37 ?hg (N := 62) ?hd (xs := ([] : List (S37))) (inner := []) (ok := fun _ => True) (okp := fun _ => True) ?hr ?hp (fun _ hk => hk) trivial (Below.refl _ _) (Nat.le_refl _) (by simp) ?_; (case hd => rfl); (case hg => rfl); (case hr => first | (go_simp; done) | (go_simp; rfl)); (case hp => exact (Reps.none _ _))
                                      intro v177 w99 ho100 hb hg_ hnew_
                                      clear hg_ hnew_
                                      (first | rw [← Ny176.out] at ho100 | (simp only [Int.reduceToNat] at ho100; rw [← Ny176.out] at ho100))
                                      have n0_ := Aside0.mk (Kd.R_elder' (by (with_reducible repeat (first | apply Kd.R_alloc | apply Kd.R_drewN | apply Kd.R_drew)); exact HO_153002.out) (Kd.R_base ho100) hb)
                                      have n1_ := Aside0.mk (Kd.R_elder' (by (with_reducible repeat (first | apply Kd.R_alloc | apply Kd.R_drewN | apply Kd.R_drew)); exact HO172.out) (Kd.R_base ho100) hb)
                                      have n2_ := Aside0.mk (Kd.R_elder' (by (with_reducible repeat (first | apply Kd.R_alloc | apply Kd.R_drewN | apply Kd.R_drew)); exact HO175.out) (Kd.R_base ho100) hb)
                                      have n3_ := Aside0.mk (Kd.R_lower (Kd.R_newB (Kd.R_new' (Kd.R_new' (Kd.R_new' (Kd.R_newM (M := fun k_ => (P0_2_ k_ ∨ w.heap.size ≤ k_)) ho100 (by first | exact HK.out.1 | exact (show Kept w _ (fun k_ => P0_2_ k_) from by repeat (first | (with_reducible first | exact HK.out | apply Kept.alloc | apply Kept.drewN | apply Kept.drew | refine Kept.setCell ?_ (.inr GW152.out) _ | refine Kept.setCell ?_ (.inr GW153.out) _ | refine Kept.setCell ?_ (.inr GW154.out) _) | exact HK.out)).1) (fun k_ h_ => .inr h_)) (Kd.R_lt (by (with_reducible repeat (first | apply Kd.R_alloc | apply Kd.R_drewN | apply Kd.R_drew)); exact HO_153002.out))) (Kd.R_lt (by (with_reducible repeat (first | apply Kd.R_alloc | apply Kd.R_drewN | apply Kd.R_drew)); exact HO172.out))) (Kd.R_lt (by (with_reducible repeat (first | apply Kd.R_alloc | apply Kd.R_drewN | apply Kd.R_drew)); exact HO175.out))) (g := gb153) (o := .cells #[.int .i64 a1_0, .int .u32 a1_1, .int .u64 a1_2, .int .i64 a1_3, .slice a1_4.A a1_4.n a1_4.c, .string a1_5] 37 (0, 0)) (by (with_reducible repeat (first | refine blk_drewN ?_ _ | refine blk_drew ?_ | refine blk_alloc ?_ _)); exact BK153.out)) (below_size (by repeat (first | (with_reducible first | exact HB.out | apply below_alloc | apply pw_below_drewN | apply below_drew1 | refine below_set ?_ GE152.out | refine below_set ?_ GE153.out | refine below_set ?_ GE154.out) | exact HB.out))))
                                      have n4_ := Aside0.mk (blk_below (g := gb152) (o := .cells #[.int .i64 a0_0, .int .u32 x153001_2, .slice (some ad169) x153002_2.length co89] 29 (0, 0)) (by (with_reducible repeat (first | refine blk_drewN ?_ _ | refine blk_drew ?_ | refine blk_alloc ?_ _)); exact BK152.out) hb)
                                      have n5_ := Aside0.mk (blk_below (g := gb153) (o := .cells #[.int .i64 a1_0, .int .u32 a1_1, .int .u64 a1_2, .int .i64 a1_3, .slice a1_4.A a1_4.n a1_4.c, .string a1_5] 37 (0, 0)) (by (with_reducible repeat (first | refine blk_drewN ?_ _ | refine blk_drew ?_ | refine blk_alloc ?_ _)); exact BK153.out) hb)
                                      have n6_ := Aside0.mk (blk_below (g := gb154) (o := .cells #[.int .i64 x155000_2, .int .u32 x155001_2, .slice none 0 0] 29 (0, 0)) (by (with_reducible repeat (first | refine blk_drewN ?_ _ | refine blk_drew ?_ | refine blk_alloc ?_ _)); exact BK154.out) hb)
                                      have n7_ := Aside0.mk (Kd.C_below (by repeat (first | (with_reducible exact HR182.out) | (with_reducible refine Kd.C_alloc ?_ _) | (with_reducible refine Kd.C_drewN ?_ _) | (with_reducible refine Kd.C_drew ?_) | exact HR182.out)) hb)
                                      have n8_ := Aside0.mk (Kd.C_below (by repeat (first | (with_reducible exact HR189.out) | (with_reducible refine Kd.C_alloc ?_ _) | (with_reducible refine Kd.C_drewN ?_ _) | (with_reducible refine Kd.C_drew ?_) | exact HR189.out)) hb)
                                      have n9_ := Aside0.mk (Kept.below (S := (fun k_ => P0_2_ k_)) (by repeat (first | (with_reducible first | exact HK.out | apply Kept.alloc | apply Kept.drewN | apply Kept.drew | refine Kept.setCell ?_ (.inr GW152.out) _ | refine Kept.setCell ?_ (.inr GW153.out) _ | refine Kept.setCell ?_ (.inr GW154.out) _) | exact HK.out)) hb)
                                      have n10_ := Aside0.mk (below_step (by repeat (first | (with_reducible first | exact HB.out | apply below_alloc | apply pw_below_drewN | apply below_drew1 | refine below_set ?_ GE152.out | refine below_set ?_ GE153.out | refine below_set ?_ GE154.out) | exact HB.out)) hb)
                                      clear HO_153002
                                      clear HO172
                                      clear HO175
                                      clear BK152
                                      clear BK153
                                      clear BK154
                                      clear HR182
                                      clear HR189
                                      clear HK
                                      clear HB
                                      have HO_153002 := n0_
                                      have HO172 := n1_
                                      have HO175 := n2_
                                      have HO178 := n3_
                                      have BK152 := n4_
                                      have BK153 := n5_
                                      have BK154 := n6_
                                      have HR182 := n7_
                                      have HR189 := n8_
                                      have HK := n9_
                                      have HB := n10_
                                      clear n0_ n1_ n2_ n3_ n4_ n5_ n6_ n7_ n8_ n9_ n10_
                                      clear hb ho100
                                      refine hK.out _ _ ⟨(blk_cell BK152.out 0).trans rfl, (blk_cell BK152.out 1).trans rfl, (blk_cell BK152.out 2).trans rfl⟩ (fun hHeld => ?_)
                                      clear hK K
                                      refine norm_ (a' := ?_) ?_ ?_
                                      rotate_left
                                      · show Act.put _ (some 62) _ = _
                                        simp only [Act.put, List.setIfInBounds_toArray, List.set_cons_zero, List.set_cons_succ, i64_w, i32_w]
                                        rfl
                                      refine one_ (i := 5) (N := some 67) #[true, true, true, true, true, true, true, true, true, true, true, false, false, false] rfl rfl (one_of HT_.out (by kernel_rfl)) (by first | decide | exact Nat.succ_pos _ | exact ne_of_E rfl (by decide)) (fun K hK => ?_)
                                      refine Kd.R_append_rows_step k37 (w0 := w0) w0.heap.size (by rfl) (.tmp 62) (.tmp 66) 22 37 (.agg #[(.int .i64 0), (.int .u32 0), (.int .u64 0), (.int .i64 0), (.slice none 0 0), (.string ⟨#[]⟩)]) 72 rfl Try.underlying22 info37 rfl (by first | decide | exact Nat.succ_pos _ | exact ne_of_E rfl (by decide)) (by omega) v177 y176 y179 _ _ _ (fun k_ => (P0_2_ k_ ∨ w.heap.size ≤ k_) ∧ some k_ ≠ (.slice (some ad169) x153002_2.length co89 : Value).ownBlock ∧ some k_ ≠ (.slice Ao95 y170.length co95 : Value).ownBlock ∧ some k_ ≠ (v174 : Value).ownBlock ∧ k_ ≠ gb153) (fun _ => False) rfl rfl ?aO ?aR (fun _ _ h => h) (fun _ h => h.elim) ?aF ?aB ?aS ?aL ?_
                                      (case aR => repeat (first | exact (by repeat (first | (with_reducible exact HR182.out) | (with_reducible refine Kd.C_alloc ?_ _) | (with_reducible refine Kd.C_drewN ?_ _) | (with_reducible refine Kd.C_drew ?_) | exact HR182.out)) | (with_reducible refine Kd.C_alloc ?_ _) | (with_reducible refine Kd.C_drewN ?_ _) | (with_reducible refine Kd.C_drew ?_)))
                                      (case aB => exact (by repeat (first | (with_reducible first | exact HB.out | apply below_alloc | apply pw_below_drewN | apply below_drew1 | refine below_set ?_ GE152.out | refine below_set ?_ GE153.out | refine below_set ?_ GE154.out) | exact HB.out)))
                                      (case aF => exact (fun k_ hk => ⟨(.inr (Nat.le_trans (by first | exact HK.out.1 | exact (show Kept w _ (fun k_ => P0_2_ k_) from by repeat (first | (with_reducible first | exact HK.out | apply Kept.alloc | apply Kept.drewN | apply Kept.drew | refine Kept.setCell ?_ (.inr GW152.out) _ | refine Kept.setCell ?_ (.inr GW153.out) _ | refine Kept.setCell ?_ (.inr GW154.out) _) | exact HK.out)).1) hk)), Kd.fresh' (Kd.R_lt (by (with_reducible repeat (first | apply Kd.R_alloc | apply Kd.R_drewN | apply Kd.R_drew)); exact HO_153002.out)) k_ hk, Kd.fresh' (Kd.R_lt (by (with_reducible repeat (first | apply Kd.R_alloc | apply Kd.R_drewN | apply Kd.R_drew)); exact HO172.out)) k_ hk, Kd.fresh' (Kd.R_lt (by (with_reducible repeat (first | apply Kd.R_alloc | apply Kd.R_drewN | apply Kd.R_drew)); exact HO175.out)) k_ hk, Kd.freshB (g := gb153) (o := .cells #[.int .i64 a1_0, .int .u32 a1_1, .int .u64 a1_2, .int .i64 a1_3, .slice a1_4.A a1_4.n a1_4.c, .string a1_5] 37 (0, 0)) (by (with_reducible repeat (first | refine blk_drewN ?_ _ | refine blk_drew ?_ | refine blk_alloc ?_ _)); exact BK153.out) k_ hk⟩))
                                      (case aO => exact (by (with_reducible repeat (first | apply Kd.R_alloc | apply Kd.R_drewN | apply Kd.R_drew)); exact Kd.R_mono HO178.out (fun _ hk => ⟨hk.1.1.1.1.1, ⟨hk.1.1.1.2, ⟨hk.1.1.2, ⟨hk.1.2, hk.2⟩⟩⟩⟩)))
                                      (case aS => exact (below_size (by repeat (first | (with_reducible first | exact HB.out | apply below_alloc | apply pw_below_drewN | apply below_drew1 | refine below_set ?_ GE152.out | refine below_set ?_ GE153.out | refine below_set ?_ GE154.out) | exact HB.out))))
                                      (case aL => have := LMc81.out; omega)
                                      intro v184 w101 ho hb hg hat
                                      rw [← Ny183.out] at ho
                                      have n0_ := Aside0.mk (Kd.R_after (ok := (fun k_ => (P0_2_ k_ ∨ w.heap.size ≤ k_) ∧ some k_ ≠ (.slice Ao95 y170.length co95 : Value).ownBlock ∧ some k_ ≠ (v174 : Value).ownBlock ∧ k_ ≠ gb153)) (by (with_reducible repeat (first | apply Kd.R_alloc | apply Kd.R_drewN | apply Kd.R_drew)); exact Kd.R_mono HO_153002.out (fun _ hk => ⟨⟨hk.1.1.1, ⟨hk.1.1.2.1, ⟨hk.1.2, hk.1.1.2.2⟩⟩⟩, hk.2⟩)) hg hat)
                                      have n1_ := Aside0.mk (blk_grown (g := gb152) (o := .cells #[.int .i64 a0_0, .int .u32 x153001_2, .slice (some ad169) x153002_2.length co89] 29 (0, 0)) (by (with_reducible repeat (first | refine blk_drewN ?_ _ | refine blk_drew ?_ | refine blk_alloc ?_ _)); exact BK152.out) hg (Kd.R_ne HO178.out BK152.out (by first | decide | exact Nat.succ_pos _ | exact ne_of_E rfl (by decide))))
                                      have n2_ := Aside0.mk (blk_grown (g := gb153) (o := .cells #[.int .i64 a1_0, .int .u32 a1_1, .int .u64 a1_2, .int .i64 a1_3, .slice a1_4.A a1_4.n a1_4.c, .string a1_5] 37 (0, 0)) (by (with_reducible repeat (first | refine blk_drewN ?_ _ | refine blk_drew ?_ | refine blk_alloc ?_ _)); exact BK153.out) hg (Kd.R_away HO178.out (fun _ hk => hk.2)))
                                      have n3_ := Aside0.mk (blk_grown (g := gb154) (o := .cells #[.int .i64 x155000_2, .int .u32 x155001_2, .slice none 0 0] 29 (0, 0)) (by (with_reducible repeat (first | refine blk_drewN ?_ _ | refine blk_drew ?_ | refine blk_alloc ?_ _)); exact BK154.out) hg (Kd.R_ne HO178.out BK154.out (by first | decide | exact Nat.succ_pos _ | exact ne_of_E rfl (by decide))))
                                      have n4_ := Aside0.mk (Kd.R_after (ok := (fun k_ => (P0_2_ k_ ∨ w.heap.size ≤ k_) ∧ some k_ ≠ (.slice (some ad169) x153002_2.length co89 : Value).ownBlock ∧ some k_ ≠ (v174 : Value).ownBlock ∧ k_ ≠ gb153)) (by (with_reducible repeat (first | apply Kd.R_alloc | apply Kd.R_drewN | apply Kd.R_drew)); exact Kd.R_mono HO172.out (fun _ hk => ⟨⟨hk.1.1.1, ⟨hk.1.1.2.1, ⟨hk.1.2, hk.1.1.2.2⟩⟩⟩, hk.2⟩)) hg hat)
                                      have n5_ := Aside0.mk (Kd.R_after (ok := (fun k_ => (P0_2_ k_ ∨ w.heap.size ≤ k_) ∧ some k_ ≠ (.slice (some ad169) x153002_2.length co89 : Value).ownBlock ∧ some k_ ≠ (.slice Ao95 y170.length co95 : Value).ownBlock ∧ k_ ≠ gb153)) (by (with_reducible repeat (first | apply Kd.R_alloc | apply Kd.R_drewN | apply Kd.R_drew)); exact HO175.out) hg hat)
                                      have n6_ := Aside0.mk (hb)
                                      have n7_ := Aside0.mk (Kept.of_grown (S := (fun k_ => P0_2_ k_)) hg (by repeat (first | (with_reducible first | exact HK.out | apply Kept.alloc | apply Kept.drewN | apply Kept.drew | refine Kept.setCell ?_ (.inr GW152.out) _ | refine Kept.setCell ?_ (.inr GW153.out) _ | refine Kept.setCell ?_ (.inr GW154.out) _) | exact HK.out)) (fun k_ e_ => (HO178.out.1 k_ e_).1.1.1.1.1))
                                      have n8_ := Aside0.mk ((show Kd.C k37 w101 (some ad169) y179.length y179 from by rw [Ny179.out]; exact Kd.C_take (m := (t168 : Int).toNat) ((Kd.R_reads' (Kd.R_after (ok := (fun k_ => (P0_2_ k_ ∨ w.heap.size ≤ k_) ∧ some k_ ≠ (.slice Ao95 y170.length co95 : Value).ownBlock ∧ some k_ ≠ (v174 : Value).ownBlock ∧ k_ ≠ gb153)) (by (with_reducible repeat (first | apply Kd.R_alloc | apply Kd.R_drewN | apply Kd.R_drew)); exact Kd.R_mono HO_153002.out (fun _ hk => ⟨⟨hk.1.1.1, ⟨hk.1.1.2.1, ⟨hk.1.2, hk.1.1.2.2⟩⟩⟩, hk.2⟩)) hg hat)).2.2) KL97.out))
                                      have n9_ := Aside0.mk ((show Kd.C k37 w101 A98 y186.length y186 from by rw [Ny186.out, KA98.out]; exact Kd.C_drop (m := ((ji82) : Int).toNat) (c := co89) ((Kd.R_reads' (Kd.R_after (ok := (fun k_ => (P0_2_ k_ ∨ w.heap.size ≤ k_) ∧ some k_ ≠ (.slice Ao95 y170.length co95 : Value).ownBlock ∧ some k_ ≠ (v174 : Value).ownBlock ∧ k_ ≠ gb153)) (by (with_reducible repeat (first | apply Kd.R_alloc | apply Kd.R_drewN | apply Kd.R_drew)); exact Kd.R_mono HO_153002.out (fun _ hk => ⟨⟨hk.1.1.1, ⟨hk.1.1.2.1, ⟨hk.1.2, hk.1.1.2.2⟩⟩⟩, hk.2⟩)) hg hat)).2.2) KL98.out ((Kd.R_reads' (Kd.R_after (ok := (fun k_ => (P0_2_ k_ ∨ w.heap.size ≤ k_) ∧ some k_ ≠ (.slice Ao95 y170.length co95 : Value).ownBlock ∧ some k_ ≠ (v174 : Value).ownBlock ∧ k_ ≠ gb153)) (by (with_reducible repeat (first | apply Kd.R_alloc | apply Kd.R_drewN | apply Kd.R_drew)); exact Kd.R_mono HO_153002.out (fun _ hk => ⟨⟨hk.1.1.1, ⟨hk.1.1.2.1, ⟨hk.1.2, hk.1.1.2.2⟩⟩⟩, hk.2⟩)) hg hat)).2.1)))
                                      have n10_ := Aside0.mk (ho)
                                      clear HO_153002
                                      clear BK152
                                      clear BK153
                                      clear BK154
                                      clear HO172
                                      clear HO175
                                      clear HB
                                      clear HK
                                      clear HR182
                                      clear HR189
                                      clear HO178
                                      have HO_153002 := n0_
                                      have BK152 := n1_
                                      have BK153 := n2_
                                      have BK154 := n3_
                                      have HO172 := n4_
                                      have HO175 := n5_
                                      have HB := n6_
                                      have HK := n7_
                                      have HR182 := n8_
                                      have HR189 := n9_
                                      have HO185 := n10_
                                      clear n0_ n1_ n2_ n3_ n4_ n5_ n6_ n7_ n8_ n9_ n10_
                                      clear ho hb hg hat
                                      refine hK.out _ _ ⟨(blk_cell BK152.out 0).trans rfl, (blk_cell BK152.out 1).trans rfl, (blk_cell BK152.out 2).trans rfl⟩ (fun hHeld => ?_)
                                      clear hK K
                                      refine norm_ (a' := ?_) ?_ ?_
                                      rotate_left
                                      · show Act.put _ (some 67) _ = _
                                        simp only [Act.put, List.setIfInBounds_toArray, List.set_cons_zero, List.set_cons_succ, i64_w, i32_w]
                                        rfl
                                      refine one_ (i := 11) (N := some 73) #[true, true, true, true, true, true, true, true, true, true, true, true, false, false] rfl rfl (one_of HT_.out (by kernel_rfl)) (by first | decide | exact Nat.succ_pos _ | exact ne_of_E rfl (by decide)) (fun K hK => ?_)
                                      refine Kd.R_append_rows_step k37 (w0 := w0) w0.heap.size (by rfl) (.tmp 67) (.tmp 72) 22 37 (.agg #[(.int .i64 0), (.int .u32 0), (.int .u64 0), (.int .i64 0), (.slice none 0 0), (.string ⟨#[]⟩)]) 72 rfl Try.underlying22 info37 rfl (by first | decide | exact Nat.succ_pos _ | exact ne_of_E rfl (by decide)) (by omega) v184 y183 y186 _ _ _ (fun k_ => (P0_2_ k_ ∨ w.heap.size ≤ k_) ∧ some k_ ≠ (.slice (some ad169) x153002_2.length co89 : Value).ownBlock ∧ some k_ ≠ (.slice Ao95 y170.length co95 : Value).ownBlock ∧ some k_ ≠ (v174 : Value).ownBlock ∧ k_ ≠ gb153) (fun _ => False) rfl rfl ?aO ?aR (fun _ _ h => h) (fun _ h => h.elim) ?aF ?aB ?aS ?aL ?_
                                      (case aR => repeat (first | exact (by repeat (first | (with_reducible exact HR189.out) | (with_reducible refine Kd.C_alloc ?_ _) | (with_reducible refine Kd.C_drewN ?_ _) | (with_reducible refine Kd.C_drew ?_) | exact HR189.out)) | (with_reducible refine Kd.C_alloc ?_ _) | (with_reducible refine Kd.C_drewN ?_ _) | (with_reducible refine Kd.C_drew ?_)))
                                      (case aB => exact (by repeat (first | (with_reducible first | exact HB.out | apply below_alloc | apply pw_below_drewN | apply below_drew1 | refine below_set ?_ GE152.out | refine below_set ?_ GE153.out | refine below_set ?_ GE154.out) | exact HB.out)))
                                      (case aF => exact (fun k_ hk => ⟨(.inr (Nat.le_trans (by first | exact HK.out.1 | exact (show Kept w _ (fun k_ => P0_2_ k_) from by repeat (first | (with_reducible first | exact HK.out | apply Kept.alloc | apply Kept.drewN | apply Kept.drew | refine Kept.setCell ?_ (.inr GW152.out) _ | refine Kept.setCell ?_ (.inr GW153.out) _ | refine Kept.setCell ?_ (.inr GW154.out) _) | exact HK.out)).1) hk)), Kd.fresh' (Kd.R_lt (by (with_reducible repeat (first | apply Kd.R_alloc | apply Kd.R_drewN | apply Kd.R_drew)); exact HO_153002.out)) k_ hk, Kd.fresh' (Kd.R_lt (by (with_reducible repeat (first | apply Kd.R_alloc | apply Kd.R_drewN | apply Kd.R_drew)); exact HO172.out)) k_ hk, Kd.fresh' (Kd.R_lt (by (with_reducible repeat (first | apply Kd.R_alloc | apply Kd.R_drewN | apply Kd.R_drew)); exact HO175.out)) k_ hk, Kd.freshB (g := gb153) (o := .cells #[.int .i64 a1_0, .int .u32 a1_1, .int .u64 a1_2, .int .i64 a1_3, .slice a1_4.A a1_4.n a1_4.c, .string a1_5] 37 (0, 0)) (by (with_reducible repeat (first | refine blk_drewN ?_ _ | refine blk_drew ?_ | refine blk_alloc ?_ _)); exact BK153.out) k_ hk⟩))
                                      (case aO => exact (by (with_reducible repeat (first | apply Kd.R_alloc | apply Kd.R_drewN | apply Kd.R_drew)); exact HO185.out))
                                      (case aS => exact (below_size (by repeat (first | (with_reducible first | exact HB.out | apply below_alloc | apply pw_below_drewN | apply below_drew1 | refine below_set ?_ GE152.out | refine below_set ?_ GE153.out | refine below_set ?_ GE154.out) | exact HB.out))))
                                      (case aL => have := LMc85.out; omega)
                                      intro v191 w102 ho hb hg hat
                                      rw [← Ny190.out] at ho
                                      have n0_ := Aside0.mk (Kd.R_after (ok := (fun k_ => (P0_2_ k_ ∨ w.heap.size ≤ k_) ∧ some k_ ≠ (.slice Ao95 y170.length co95 : Value).ownBlock ∧ some k_ ≠ (v174 : Value).ownBlock ∧ k_ ≠ gb153)) (by (with_reducible repeat (first | apply Kd.R_alloc | apply Kd.R_drewN | apply Kd.R_drew)); exact HO_153002.out) hg hat)
                                      have n1_ := Aside0.mk (blk_grown (g := gb152) (o := .cells #[.int .i64 a0_0, .int .u32 x153001_2, .slice (some ad169) x153002_2.length co89] 29 (0, 0)) (by (with_reducible repeat (first | refine blk_drewN ?_ _ | refine blk_drew ?_ | refine blk_alloc ?_ _)); exact BK152.out) hg (Kd.R_ne HO185.out BK152.out (by first | decide | exact Nat.succ_pos _ | exact ne_of_E rfl (by decide))))
                                      have n2_ := Aside0.mk (blk_grown (g := gb153) (o := .cells #[.int .i64 a1_0, .int .u32 a1_1, .int .u64 a1_2, .int .i64 a1_3, .slice a1_4.A a1_4.n a1_4.c, .string a1_5] 37 (0, 0)) (by (with_reducible repeat (first | refine blk_drewN ?_ _ | refine blk_drew ?_ | refine blk_alloc ?_ _)); exact BK153.out) hg (Kd.R_away HO185.out (fun _ hk => hk.2.2.2.2)))
                                      have n3_ := Aside0.mk (blk_grown (g := gb154) (o := .cells #[.int .i64 x155000_2, .int .u32 x155001_2, .slice none 0 0] 29 (0, 0)) (by (with_reducible repeat (first | refine blk_drewN ?_ _ | refine blk_drew ?_ | refine blk_alloc ?_ _)); exact BK154.out) hg (Kd.R_ne HO185.out BK154.out (by first | decide | exact Nat.succ_pos _ | exact ne_of_E rfl (by decide))))
                                      have n4_ := Aside0.mk (Kd.R_after (ok := (fun k_ => (P0_2_ k_ ∨ w.heap.size ≤ k_) ∧ some k_ ≠ (.slice (some ad169) x153002_2.length co89 : Value).ownBlock ∧ some k_ ≠ (v174 : Value).ownBlock ∧ k_ ≠ gb153)) (by (with_reducible repeat (first | apply Kd.R_alloc | apply Kd.R_drewN | apply Kd.R_drew)); exact HO172.out) hg hat)
                                      have n5_ := Aside0.mk (Kd.R_after (ok := (fun k_ => (P0_2_ k_ ∨ w.heap.size ≤ k_) ∧ some k_ ≠ (.slice (some ad169) x153002_2.length co89 : Value).ownBlock ∧ some k_ ≠ (.slice Ao95 y170.length co95 : Value).ownBlock ∧ k_ ≠ gb153)) (by (with_reducible repeat (first | apply Kd.R_alloc | apply Kd.R_drewN | apply Kd.R_drew)); exact HO175.out) hg hat)
                                      have n6_ := Aside0.mk (hb)
                                      have n7_ := Aside0.mk (Kept.of_grown (S := (fun k_ => P0_2_ k_)) hg (by repeat (first | (with_reducible first | exact HK.out | apply Kept.alloc | apply Kept.drewN | apply Kept.drew | refine Kept.setCell ?_ (.inr GW152.out) _ | refine Kept.setCell ?_ (.inr GW153.out) _ | refine Kept.setCell ?_ (.inr GW154.out) _) | exact HK.out)) (fun k_ e_ => (HO185.out.1 k_ e_).1))
                                      have n8_ := Aside0.mk ((show Kd.C k37 w102 (some ad169) y179.length y179 from by rw [Ny179.out]; exact Kd.C_take (m := (t168 : Int).toNat) ((Kd.R_reads' (Kd.R_after (ok := (fun k_ => (P0_2_ k_ ∨ w.heap.size ≤ k_) ∧ some k_ ≠ (.slice Ao95 y170.length co95 : Value).ownBlock ∧ some k_ ≠ (v174 : Value).ownBlock ∧ k_ ≠ gb153)) (by (with_reducible repeat (first | apply Kd.R_alloc | apply Kd.R_drewN | apply Kd.R_drew)); exact HO_153002.out) hg hat)).2.2) KL97.out))
                                      have n9_ := Aside0.mk ((show Kd.C k37 w102 A98 y186.length y186 from by rw [Ny186.out, KA98.out]; exact Kd.C_drop (m := ((ji82) : Int).toNat) (c := co89) ((Kd.R_reads' (Kd.R_after (ok := (fun k_ => (P0_2_ k_ ∨ w.heap.size ≤ k_) ∧ some k_ ≠ (.slice Ao95 y170.length co95 : Value).ownBlock ∧ some k_ ≠ (v174 : Value).ownBlock ∧ k_ ≠ gb153)) (by (with_reducible repeat (first | apply Kd.R_alloc | apply Kd.R_drewN | apply Kd.R_drew)); exact HO_153002.out) hg hat)).2.2) KL98.out ((Kd.R_reads' (Kd.R_after (ok := (fun k_ => (P0_2_ k_ ∨ w.heap.size ≤ k_) ∧ some k_ ≠ (.slice Ao95 y170.length co95 : Value).ownBlock ∧ some k_ ≠ (v174 : Value).ownBlock ∧ k_ ≠ gb153)) (by (with_reducible repeat (first | apply Kd.R_alloc | apply Kd.R_drewN | apply Kd.R_drew)); exact HO_153002.out) hg hat)).2.1)))
                                      have n10_ := Aside0.mk (ho)
                                      clear HO_153002
                                      clear BK152
                                      clear BK153
                                      clear BK154
                                      clear HO172
                                      clear HO175
                                      clear HB
                                      clear HK
                                      clear HR182
                                      clear HR189
                                      clear HO185
                                      have HO_153002 := n0_
                                      have BK152 := n1_
                                      have BK153 := n2_
                                      have BK154 := n3_
                                      have HO172 := n4_
                                      have HO175 := n5_
                                      have HB := n6_
                                      have HK := n7_
                                      have HR182 := n8_
                                      have HR189 := n9_
                                      have HO192 := n10_
                                      clear n0_ n1_ n2_ n3_ n4_ n5_ n6_ n7_ n8_ n9_ n10_
                                      clear ho hb hg hat
                                      obtain ⟨Ao103, co103, eo103⟩ := Kd.R_slice HO192.out
                                      (first | subst eo103 | (injection eo103 with f1_ f2_ f3_; have f4_ := f1_.symm; have f5_ := f3_.symm; clear f1_ f2_ f3_; subst f4_; subst f5_))
                                      refine hK.out _ _ ⟨(blk_cell BK152.out 0).trans rfl, (blk_cell BK152.out 1).trans rfl, (blk_cell BK152.out 2).trans rfl⟩ (fun hHeld => ?_)
                                      clear hK K
                                      refine norm_ (a' := ?_) ?_ ?_
                                      rotate_left
                                      · show Act.put _ (some 73) _ = _
                                        simp only [Act.put, List.setIfInBounds_toArray, List.set_cons_zero, List.set_cons_succ, i64_w, i32_w]
                                        rfl
                                      refine pure_ (i := 12) (N := some 74) (v := ?_) (a' := ?_) #[true, true, true, true, true, true, true, true, true, true, true, true, true, false] rfl rfl (any_of HT_.out (by kernel_rfl)) (fun _ _ _ h => h) (Or.inl ⟨by rfl, ?_⟩) ?_ ?_
                                      rotate_left
                                      · intro w'
                                        go_simp
                                        with_reducible rfl
                                      rotate_left
                                      · simp only [Act.put, List.setIfInBounds_toArray, List.set_cons_zero, List.set_cons_succ, i64_w, i32_w]
                                        rfl
                                      refine last_ (i := 13) (N := none) #[true, true, true, true, true, true, true, true, true, true, true, true, true, true] rfl rfl (one_of HT_.out (by kernel_rfl)) (by first | decide | exact Nat.succ_pos _ | exact ne_of_E rfl (by decide)) (fun K hK => ?_)
                                      have hs104 : w102.cell? ⟨gb152, 2, none⟩ = some (.slice (some ad169) x153002_2.length co89) := (blk_cell BK152.out 2).trans rfl
                                      have hfs104 := blk_frozen BK152.out 2
                                      have hns104_1 := NB153_152.out
                                      have hns104_2 := NB154_152.out
                                      have hms104_1 := NB152_153.out
                                      have hms104_2 := NB152_154.out
                                      refine skip_ (w1 := ?_) (by rfl) rfl ?_ ?_
                                      rotate_left
                                      · go_simp
                                        rfl
                                      refine hK.out _ _ ?_
                                      clear hK K
                                      refine done_ (done_of HT_.out (by kernel_rfl)) ?_
                                      have hcz105_0 : w102.cell? ⟨gb152, 0, none⟩ = some (.int .i64 a0_0) := (blk_cell BK152.out 0).trans rfl
                                      have hcz105_1 : w102.cell? ⟨gb152, 1, none⟩ = some (.int .u32 x153001_2) := (blk_cell BK152.out 1).trans rfl
                                      have hcz105_2 : w102.cell? ⟨gb152, 2, none⟩ = some (.slice (some ad169) x153002_2.length co89) := (blk_cell BK152.out 2).trans rfl
                                      have hfz105_0 := blk_frozen BK152.out 0
                                      have hfz105_1 := blk_frozen BK152.out 1
                                      have hfz105_2 := blk_frozen BK152.out 2
                                      try go_wp2
                                      go_roundg k2
                                      case measure => have := HJ13.out; have := HK2.out; omega
                                      case rel => exact ⟨(y173), ((x153001_2 + 1) % 4294967296), (y190), (x155000_2), (x155001_2), (.slice Ao103 y190.length co103), H', ⟨by have := HJ13.out; have := HK2.out; omega⟩, ⟨by (with_reducible repeat (first | apply Kd.R_alloc | apply Kd.R_drewN | apply Kd.R_drew)); exact Kd.R_mono (Kd.R_far (p := ⟨gb152, 1, none⟩) (Kd.R_far (p := ⟨gb152, 2, none⟩) (Kd.R_types HO175.out BK152.out (by first | decide | exact Nat.succ_pos _ | exact ne_of_E rfl (by decide))) (fun _ hk => hk.2) (.slice Ao103 y190.length co103)) (fun _ hk => hk.2) (.int .u32 ((x153001_2 + 1) % 4294967296))) (fun _ hk => ⟨hk.1.1.1, ⟨hk.1.2, hk.1.1.2.2.2⟩⟩)⟩, ⟨by (with_reducible repeat (first | apply Kd.R_alloc | apply Kd.R_drewN | apply Kd.R_drew)); exact Kd.R_mono (Kd.R_far (p := ⟨gb152, 1, none⟩) (Kd.R_far (p := ⟨gb152, 2, none⟩) (Kd.R_types HO192.out BK152.out (by first | decide | exact Nat.succ_pos _ | exact ne_of_E rfl (by decide))) (fun _ hk => hk.2) (.slice Ao103 y190.length co103)) (fun _ hk => hk.2) (.int .u32 ((x153001_2 + 1) % 4294967296))) (fun _ hk => ⟨hk.1.1, ⟨hk.1.2.2.2.1, hk.1.2.2.2.2⟩⟩)⟩, ⟨by (with_reducible repeat (first | refine blk_drewN ?_ _ | refine blk_drew ?_ | refine blk_alloc ?_ _)); refine blk_put (cs := #[.int .i64 a0_0, .int .u32 x153001_2, .slice Ao103 y190.length co103]) ?_ 1 _ rfl; (with_reducible repeat (first | refine blk_drewN ?_ _ | refine blk_drew ?_ | refine blk_alloc ?_ _)); refine blk_put (cs := #[.int .i64 a0_0, .int .u32 x153001_2, .slice (some ad169) x153002_2.length co89]) ?_ 2 _ rfl; (with_reducible repeat (first | refine blk_drewN ?_ _ | refine blk_drew ?_ | refine blk_alloc ?_ _)); exact BK152.out⟩, ⟨by (with_reducible repeat (first | refine blk_drewN ?_ _ | refine blk_drew ?_ | refine blk_alloc ?_ _)); refine blk_far ?_ NB153_152.out _; (with_reducible repeat (first | refine blk_drewN ?_ _ | refine blk_drew ?_ | refine blk_alloc ?_ _)); refine blk_far ?_ NB153_152.out _; (with_reducible repeat (first | refine blk_drewN ?_ _ | refine blk_drew ?_ | refine blk_alloc ?_ _)); exact BK153.out⟩, ⟨by (with_reducible repeat (first | refine blk_drewN ?_ _ | refine blk_drew ?_ | refine blk_alloc ?_ _)); refine blk_far ?_ NB154_152.out _; (with_reducible repeat (first | refine blk_drewN ?_ _ | refine blk_drew ?_ | refine blk_alloc ?_ _)); refine blk_far ?_ NB154_152.out _; (with_reducible repeat (first | refine blk_drewN ?_ _ | refine blk_drew ?_ | refine blk_alloc ?_ _)); exact BK154.out⟩, ⟨by repeat (first | (with_reducible first | exact HK.out | apply Kept.alloc | apply Kept.drewN | apply Kept.drew | refine Kept.setCell ?_ (.inr GW152.out) _ | refine Kept.setCell ?_ (.inr GW153.out) _ | refine Kept.setCell ?_ (.inr GW154.out) _) | exact HK.out)⟩, ⟨by repeat (first | (with_reducible first | exact HB.out | apply below_alloc | apply pw_below_drewN | apply below_drew1 | refine below_set ?_ GE152.out | refine below_set ?_ GE153.out | refine below_set ?_ GE154.out) | exact HB.out)⟩⟩
                                    · rw [if_neg c85] at H
                                      exact absurd H (by simp)
                                  · rw [if_neg c84] at H
                                    exact absurd H (by simp)
                                · rw [if_neg c83] at H
                                  exact absurd H (by simp)
                              · rw [if_neg c81] at H
                                exact absurd H (by simp)
                            · rw [if_neg c80] at H
                              exact absurd H (by simp)
                          · rw [if_neg c78] at H
                            exact absurd H (by simp)
                        · rw [if_neg c77] at H
                          exact absurd H (by simp)
                      · rw [if_neg c76] at H
                        exact absurd H (by simp)
              · rw [if_neg c49] at H
                exact absurd H (by simp)
            · rw [if_neg c48] at H
              exact absurd H (by simp)

end Go.Proofs.Ytmedahgbmebegaa.P
