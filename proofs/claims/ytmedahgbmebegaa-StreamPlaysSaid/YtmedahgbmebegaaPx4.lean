-- Written by our own program (wip/pr) over the kit's print.py, with contracts of our own.
import Derived.Test.YtmedahgbmebegaaPx0
import Derived.Test.YtmedahgbmebegaaPx1
import Derived.Test.YtmedahgbmebegaaPx2
import Derived.Test.YtmedahgbmebegaaPx3
import Derived.Test.YtmedahgbmebegaaHandT
namespace Go.Proofs.Ytmedahgbmebegaa.P
open Go.Proofs.YtmedahgbmebegaaOv
open Go.RowKit Go.Proofs.YtmedahgbmebegaaW.PrintWords Go.Proofs.YtmedahgbmebegaaW.PrintLast Go.Proofs.YtmedahgbmebegaaW.PrintMore
attribute [local go_sem] max2_int min2_int max_two min_two max_three min_three max_four min_four   -- for this text's walks alone
set_option linter.unusedVariables false
set_option linter.unusedSimpArgs false
set_option linter.unusedSectionVars false
variable [TheW]

/-! ### consortlaw10_StreamPlays: function 3 -/
def consortlaw10_StreamPlays.l0 : Nat → List (S37) → Int → Int → Int → Int → (List (Int × S37)) → Int → Int → List (S37) → Option (Bool)
  | 0, _, _, _, _, _, _, _, _, _ => none
  | k + 1, x1, x2, x9, x203000, x203001, x203002, x209000, x209001, x209002 => if x9 < (x1.length : Int) then (if 0 ≤ x9 then ((stream_Take.f x203000 x203001 x203002 ((rd_T37 x1 x9).f0) ((rd_T37 x1 x9).f1) ((rd_T37 x1 x9).f2) ((rd_T37 x1 x9).f3) ((rd_T37 x1 x9).f4) ((rd_T37 x1 x9).f5)).bind fun bt210 => ((consortref10_Take.f k x209000 x209001 x209002 ((rd_T37 x1 x9).f0) ((rd_T37 x1 x9).f1) ((rd_T37 x1 x9).f2) ((rd_T37 x1 x9).f3) ((rd_T37 x1 x9).f4) ((rd_T37 x1 x9).f5)).bind fun bt218 => ((stream_Lacks.f bt210.2.2.1 bt210.2.2.2.1 bt210.2.2.2.2 x2).bind fun bt228 => ((consortref10_Lacks.f bt218.1 bt218.2.1 bt218.2.2.1 x2).bind fun bt233 => ((consortref03_All.f k bt210.1 bt218.2.2.2.1).bind fun t235 => (if t235 = true then (if bt210.2.1 = bt218.2.2.2.2 then ((stream_Count.f bt228.2.2.1 bt228.2.2.2.1 bt228.2.2.2.2).bind fun bt236 => (if bt236.1 = bt218.2.1 then ((stream_Held.f bt236.2.1 bt236.2.2.1 bt236.2.2.2).bind fun bt240 => (if bt240.1 = (bt218.2.2.1.length : Int) then (if bt228.1 = bt233.1 then (if (bt228.2.1 != bt233.2) = true then (some false) else (consortlaw10_StreamPlays.l0 k x1 x2 (wrap64 (x9 + 1)) bt240.2.1 bt240.2.2.1 bt240.2.2.2 bt218.1 bt218.2.1 bt218.2.2.1)) else (some false)) else (some false))) else (some false))) else (some false)) else (some false))))))) else (none)) else (some true)
def consortlaw10_StreamPlays.f (k : Nat) (a0 : Int) (l1 : List (S37)) (a2 : Int) : Option (Bool) := (consortlaw10_awake.f).bind fun t197 => (if t197 = true then ((consortlaw03_Few.f k l1).bind fun t198 => (if t198 = true then ((stream_New.f a0).bind fun bt199 => ((consortref10_New.f a0).bind fun bt203 => (consortlaw10_StreamPlays.l0 k l1 a2 0 bt199.1 bt199.2.1 bt199.2.2 bt203.1 bt203.2.1 bt203.2.2))) else (some true))) else (some false))
theorem consortlaw10_StreamPlays.mono_l : ∀ k, (∀ y0 y1 y2 y3 y4 y5 y6 y7 y8, LeO (consortlaw10_StreamPlays.l0 k y0 y1 y2 y3 y4 y5 y6 y7 y8) (consortlaw10_StreamPlays.l0 (k + 1) y0 y1 y2 y3 y4 y5 y6 y7 y8))
  | 0 => fun _ _ _ _ _ _ _ _ _ r h => by simp [consortlaw10_StreamPlays.l0] at h
  | k + 1 => by
    have ih0 := consortlaw10_StreamPlays.mono_l k
    · intro y0 y1 y2 y3 y4 y5 y6 y7 y8
      unfold consortlaw10_StreamPlays.l0
      repeat' first
      | (with_reducible exact ih0 _ _ _ _ _ _ _ _ _)
      | (with_reducible exact consortlaw03_Few.mono _ _)
      | (with_reducible exact consortref03_All.mono _ _ _)
      | (with_reducible exact consortref10_Take.mono _ _ _ _ _ _ _ _ _ _)
      | (with_reducible exact LeO.refl _)
      | (with_reducible exact LeO.none _)
      | (with_reducible refine LeO.ite ?_ ?_)
      | (with_reducible refine LeO.bind ?_ (fun _ => ?_))
      | exact ih0 _ _ _ _ _ _ _ _ _
      | exact consortlaw03_Few.mono _ _
      | exact consortref03_All.mono _ _ _
      | exact consortref10_Take.mono _ _ _ _ _ _ _ _ _ _
      | exact LeO.none _
      | refine LeO.ite ?_ ?_
      | refine LeO.bind ?_ (fun _ => ?_)
theorem consortlaw10_StreamPlays.mono : ∀ a0 a1 a2 k, LeO (consortlaw10_StreamPlays.f k a0 a1 a2) (consortlaw10_StreamPlays.f (k + 1) a0 a1 a2) := by
  intro a0 a1 a2 k
  have ih0 := consortlaw10_StreamPlays.mono_l k
  unfold consortlaw10_StreamPlays.f
  repeat' first
      | (with_reducible exact ih0 _ _ _ _ _ _ _ _ _)
      | (with_reducible exact consortlaw03_Few.mono _ _)
      | (with_reducible exact consortref03_All.mono _ _ _)
      | (with_reducible exact consortref10_Take.mono _ _ _ _ _ _ _ _ _ _)
      | (with_reducible exact LeO.refl _)
      | (with_reducible exact LeO.none _)
      | (with_reducible refine LeO.ite ?_ ?_)
      | (with_reducible refine LeO.bind ?_ (fun _ => ?_))
      | exact ih0 _ _ _ _ _ _ _ _ _
      | exact consortlaw03_Few.mono _ _
      | exact consortref03_All.mono _ _ _
      | exact consortref10_Take.mono _ _ _ _ _ _ _ _ _ _
      | exact LeO.none _
      | refine LeO.ite ?_ ?_
      | refine LeO.bind ?_ (fun _ => ?_)
def consortlaw10_StreamPlays.T10 : Bool × List (List Nat × List Nat) := (true, [([], []), ([], []), ([], []), ([1, 2], [1, 2]), ([3], [3]), ([0, 4], [0, 4]), ([5], [5]), ([6], [6]), ([6], [6]), ([6], [6]), ([], []), ([10, 7, 5, 0, 1, 2, 3, 4, 5, 6, 7, 10], [7, 10]), ([8, 11, 0, 1, 2, 3, 4, 5, 6, 7, 8, 10, 11], [8]), ([9, 12, 0, 1, 2, 3, 4, 5, 6, 7, 8, 9, 10, 11, 12], [9])])
def consortlaw10_StreamPlays.B10 : List Nat := [0, 0, 0, 6, 14, 31, 63, 127, 127, 127, 0, 1279, 3583, 8191]
theorem consortlaw10_StreamPlays.tab10 : rtab .any (opsOf Try.f3 10) = consortlaw10_StreamPlays.T10 := by kernel_rfl
theorem consortlaw10_StreamPlays.bits10 : waitsOk consortlaw10_StreamPlays.T10.2 consortlaw10_StreamPlays.B10 = true := by kernel_rfl
def consortlaw10_StreamPlays.T14 : Bool × List (List Nat × List Nat) := (true, [([], []), ([], []), ([0, 1], [0, 1]), ([2], [2]), ([3, 2], [3]), ([4], [4]), ([4], [4]), ([5, 6, 4], [4, 5, 6]), ([4, 7], [4, 7]), ([8, 4], [8]), ([9], [9]), ([10, 9, 9], [9, 10]), ([9], [9]), ([12, 9], [9, 12]), ([11, 13, 9], [9, 11, 13]), ([9, 14], [9, 14]), ([15, 11], [15]), ([16], [16]), ([17, 16, 16], [16, 17]), ([16], [16]), ([19, 16], [16, 19]), ([20, 16], [16, 20]), ([18, 21, 16], [16, 18, 21]), ([16, 22], [16, 22]), ([23, 18], [23]), ([24], [24]), ([24], [24]), ([25, 26, 24], [24, 25, 26]), ([24, 27], [24, 27]), ([28, 24], [28]), ([29], [29]), ([29], [29]), ([30, 31, 29], [29, 30, 31]), ([29, 32], [29, 32])])
def consortlaw10_StreamPlays.B14 : List Nat := [0, 0, 3, 7, 15, 31, 31, 127, 255, 511, 1023, 2047, 1023, 5119, 16383, 32767, 65535, 131071, 262143, 131071, 655359, 1703935, 4194303, 8388607, 16777215, 33554431, 33554431, 134217727, 268435455, 536870911, 1073741823, 1073741823, 4294967295, 8589934591]
theorem consortlaw10_StreamPlays.tab14 : rtab .any (opsOf Try.f3 14) = consortlaw10_StreamPlays.T14 := by kernel_rfl
theorem consortlaw10_StreamPlays.bits14 : waitsOk consortlaw10_StreamPlays.T14.2 consortlaw10_StreamPlays.B14 = true := by kernel_rfl
set_option maxHeartbeats 8000000 in
set_option maxRecDepth 100000 in
theorem consortlaw10_StreamPlays.calls (k : Nat) (a0 : Int) (A1 : Option Addr) (c1 : Nat) (l1 : List (S37)) (a2 : Int) (w : World) (hr1 : Kd.C k37 w A1 l1.length l1) (hc1 : l1.length ≤ c1) (hW : Below TheW.w0.heap.size TheW.w0 w) (h : consortlaw10_StreamPlays.f k a0 l1 a2 = some true) :
    Calls Try.prog 3 #[.int .i64 a0, .slice A1 l1.length c1, .int .u32 a2] w fun e w' => e = .returned (.bool true) ∧ Below w.heap.size w w' := by
  have hu29 := Try.underlying29
  have hu37 := Try.underlying37
  have HR1 := Aside0.mk hr1
  have HC1 := Aside0.mk hc1
  clear hr1 hc1
  have HB := Aside0.mk (Below.refl w.heap.size w)
  have HW := Aside0.mk hW
  clear hW
  have H : ((consortlaw10_awake.f).bind fun t197 => (if t197 = true then ((consortlaw03_Few.f k l1).bind fun t198 => (if t198 = true then ((stream_New.f a0).bind fun bt199 => ((consortref10_New.f a0).bind fun bt203 => (consortlaw10_StreamPlays.l0 k l1 a2 0 bt199.1 bt199.2.1 bt199.2.2 bt203.1 bt203.2.1 bt203.2.2))) else (some true))) else (some false))) = some true := h
  clear h
  replace H := Option.bind_eq_some_iff.mp H
  obtain ⟨t197, A40, H⟩ := H
  replace H : (if t197 = true then ((consortlaw03_Few.f k l1).bind fun t198 => (if t198 = true then ((stream_New.f a0).bind fun bt199 => ((consortref10_New.f a0).bind fun bt203 => (consortlaw10_StreamPlays.l0 k l1 a2 0 bt199.1 bt199.2.1 bt199.2.2 bt203.1 bt203.2.1 bt203.2.2))) else (some true))) else (some false)) = some true := H
  have A4 := Aside0.mk A40
  clear A40
  by_cases c5 : t197 = true
  · subst c5
    have H1 : ((consortlaw03_Few.f k l1).bind fun t198 => (if t198 = true then ((stream_New.f a0).bind fun bt199 => ((consortref10_New.f a0).bind fun bt203 => (consortlaw10_StreamPlays.l0 k l1 a2 0 bt199.1 bt199.2.1 bt199.2.2 bt203.1 bt203.2.1 bt203.2.2))) else (some true))) = some true := by first | (rw [if_pos rfl] at H; done) | (rw [if_pos rfl] at H; exact H)
    clear H
    have H := H1
    clear H1
    replace H := Option.bind_eq_some_iff.mp H
    obtain ⟨t198, A60, H⟩ := H
    replace H : (if t198 = true then ((stream_New.f a0).bind fun bt199 => ((consortref10_New.f a0).bind fun bt203 => (consortlaw10_StreamPlays.l0 k l1 a2 0 bt199.1 bt199.2.1 bt199.2.2 bt203.1 bt203.2.1 bt203.2.2))) else (some true)) = some true := H
    have A6 := Aside0.mk A60
    clear A60
    by_cases c7 : t198 = true
    · subst c7
      have H1 : ((stream_New.f a0).bind fun bt199 => ((consortref10_New.f a0).bind fun bt203 => (consortlaw10_StreamPlays.l0 k l1 a2 0 bt199.1 bt199.2.1 bt199.2.2 bt203.1 bt203.2.1 bt203.2.2))) = some true := by first | (rw [if_pos rfl] at H; done) | (rw [if_pos rfl] at H; exact H)
      clear H
      have H := H1
      clear H1
      replace H := Option.bind_eq_some_iff.mp H
      obtain ⟨⟨t199, t200, t201⟩, A80, H⟩ := H
      replace H : ((consortref10_New.f a0).bind fun bt203 => (consortlaw10_StreamPlays.l0 k l1 a2 0 t199 t200 t201 bt203.1 bt203.2.1 bt203.2.2)) = some true := H
      have A8 := Aside0.mk A80
      clear A80
      replace H := Option.bind_eq_some_iff.mp H
      obtain ⟨⟨t203, t204, t205⟩, A90, H⟩ := H
      replace H : (consortlaw10_StreamPlays.l0 k l1 a2 0 t199 t200 t201 t203 t204 t205) = some true := H
      have A9 := Aside0.mk A90
      clear A90
      have H' := Aside0.mk H
      clear H
      go_enter Try.func3, Try.ntmps3
      go_wp2_with (first | ((with_reducible refine gate_callee (f := 7) rfl ?_); refine goesL_ (some 19) rfl rfl Try.func7 (by kernel_rfl) rfl #[] rfl (by (try simp only [List.map_toArray, List.map_cons, List.map_nil]); first | done | rfl | (simp only [List.length_drop, List.length_take]; rfl)) ?_; (with_reducible refine (consortlaw10_awake.calls  true _ A4.out).mono ?_); rintro e w10 ⟨rfl, hb⟩; refine ⟨_, rfl, ?_⟩; have n0_ := Aside0.mk (below_step (by repeat (first | (with_reducible first | exact HB.out | apply below_alloc | apply pw_below_drewN | apply below_drew1) | exact HB.out)) hb); clear HB; have HB := n0_; clear n0_; (try clear hb); (try clear hb2); (try clear hk); (try clear hi)) | ((with_reducible refine gate_callee (f := 8) rfl ?_); refine goesL_ (some 22) rfl rfl Try.func8 (by kernel_rfl) rfl #[.slice A1 l1.length c1] rfl (by (try simp only [List.map_toArray, List.map_cons, List.map_nil]); first | done | rfl | (simp only [List.length_drop, List.length_take]; rfl)) ?_; (with_reducible refine (consortlaw03_Few.calls k _ _ l1 true _ ?side1 ?side2 A6.out).mono ?_); (case side1 => repeat (first | exact (Kd.C_below HR1.out HB.out) | (with_reducible refine Kd.C_alloc ?_ _) | (with_reducible refine Kd.C_drewN ?_ _) | (with_reducible refine Kd.C_drew ?_))); (case side2 => exact HC1.out); rintro e w11 ⟨rfl, hb⟩; refine ⟨_, rfl, ?_⟩; have n0_ := Aside0.mk (below_step (by repeat (first | (with_reducible first | exact HB.out | apply below_alloc | apply pw_below_drewN | apply below_drew1) | exact HB.out)) hb); clear HB; have HB := n0_; clear n0_; (try clear hb); (try clear hb2); (try clear hk); (try clear hi)) | ((with_reducible refine gate_callee (f := 9) rfl ?_); refine goesL_ (some 25) rfl rfl Try.func9 (by kernel_rfl) rfl #[.int .i64 a0] rfl (by (try simp only [List.map_toArray, List.map_cons, List.map_nil]); first | done | rfl | (simp only [List.length_drop, List.length_take]; rfl)) ?_; (with_reducible refine (stream_New.calls a0 t199 t200 t201 w _ ?side1 A8.out).mono ?_); (case side1 => repeat (first | (with_reducible first | exact HB.out | apply below_alloc | apply pw_below_drewN | apply below_drew1) | exact HB.out)); rintro e w12 ⟨g202, rfl, hi, hb, hb2⟩; refine ⟨_, rfl, ?_⟩; have n0_ := Aside0.mk (hb); have n1_ := Aside0.mk (hi); clear HB; have HB := n0_; have HI202 := n1_; clear n0_ n1_; (try clear hb); (try clear hb2); (try clear hk); (try clear hi)) | ((with_reducible refine gate_callee (f := 10) rfl ?_); refine goesL_ (some 27) rfl rfl Try.func10 (by kernel_rfl) rfl #[.int .i64 a0] rfl (by (try simp only [List.map_toArray, List.map_cons, List.map_nil]); first | done | rfl | (simp only [List.length_drop, List.length_take]; rfl)) ?_; (with_reducible refine (consortref10_New.calls a0 t203 t204 t205 _ A9.out).mono ?_); rintro e w13 ⟨v206, rfl, ho0, hb⟩; refine ⟨_, rfl, ?_⟩; have n0_ := Aside0.mk (Kd.R_lower ho0 (below_size (by repeat (first | (with_reducible first | exact HB.out | apply below_alloc | apply pw_below_drewN | apply below_drew1 | refine below_set ?_ (IsS56.ge HI202.out)) | exact HB.out)))); have n1_ := Aside0.mk (IsS56.below (by repeat (first | (with_reducible first | exact HI202.out | apply IsS56.alloc | apply IsS56.drewN | apply IsS56.drew | apply IsS56.set_0 | apply IsS56.set_1 | apply IsS56.set_2) | exact HI202.out)) hb); have n2_ := Aside0.mk (below_step (by repeat (first | (with_reducible first | exact HB.out | apply below_alloc | apply pw_below_drewN | apply below_drew1 | refine below_set ?_ (IsS56.ge HI202.out)) | exact HB.out)) hb); clear HI202; clear HB; have HO207 := n0_; have HI202 := n1_; have HB := n2_; clear n0_ n1_ n2_; (try clear hb); (try clear hb2); (try clear hk); (try clear hi); (try clear ho0)) | ((with_reducible refine gate_dst (N := 8) rfl ?_); (try (refine gate_guard (by rfl) ?_; dsimp only)); refine box_event ?hg (N := 8) ?hd (cs := #[.int .i64 0, .int .u32 0, .slice none 0 0]) (t := 29) ?hr ?_; (case hd => rfl); (case hg => rfl); (case hr => first | (go_simp; done) | (go_simp; rfl)); intro gb208 hg w14 hbox hb; have n0_ := Aside0.mk (Kd.R_below (by (with_reducible repeat (first | apply Kd.R_alloc | apply Kd.R_drewN | apply Kd.R_drew)); exact HO207.out) hb); have n1_ := Aside0.mk (IsS56.below (by repeat (first | (with_reducible first | exact HI202.out | apply IsS56.alloc | apply IsS56.drewN | apply IsS56.drew | apply IsS56.set_0 | apply IsS56.set_1 | apply IsS56.set_2) | exact HI202.out)) hb); have n2_ := Aside0.mk (below_step (by repeat (first | (with_reducible first | exact HB.out | apply below_alloc | apply pw_below_drewN | apply below_drew1 | refine below_set ?_ (IsS56.ge HI202.out)) | exact HB.out)) hb); have n3_ := Aside0.mk (hbox); have n4_ := Aside0.mk ((by rw [hg]; exact (below_size (by repeat (first | (with_reducible first | exact HB.out | apply below_alloc | apply pw_below_drewN | apply below_drew1 | refine below_set ?_ (IsS56.ge HI202.out)) | exact HB.out))) : w.heap.size ≤ gb208)); have n5_ := Aside0.mk ((by rw [hg]; exact (below_size (by repeat (first | (with_reducible first | exact HB.out | apply below_alloc | apply pw_below_drewN | apply below_drew1 | refine below_set ?_ (IsS56.ge HI202.out)) | exact HB.out))) : w.heap.size ≤ gb208)); have n6_ := Aside0.mk ((by rw [hg]; exact Nat.ne_of_lt (IsS56.lt (show IsS56 w _ g202 t199 t200 t201 from by repeat (first | (with_reducible first | exact HI202.out | apply IsS56.alloc | apply IsS56.drewN | apply IsS56.drew | apply IsS56.set_0 | apply IsS56.set_1 | apply IsS56.set_2) | exact HI202.out))) : g202 ≠ gb208)); have n7_ := Aside0.mk ((by rw [hg]; exact Nat.ne_of_gt (IsS56.lt (show IsS56 w _ g202 t199 t200 t201 from by repeat (first | (with_reducible first | exact HI202.out | apply IsS56.alloc | apply IsS56.drewN | apply IsS56.drew | apply IsS56.set_0 | apply IsS56.set_1 | apply IsS56.set_2) | exact HI202.out))) : gb208 ≠ g202)); clear HO207; clear HI202; clear HB; have HO207 := n0_; have HI202 := n1_; have HB := n2_; have BK208 := n3_; have GW208 := n4_; have GE208 := n5_; have NB202_208 := n6_; have NB208_202 := n7_; clear n0_ n1_ n2_ n3_ n4_ n5_ n6_ n7_; clear hb hbox hg; have hnb15 := NB208_202.out; have hnc15 := NB202_208.out; have hcz16_0 : w14.cell? ⟨gb208, 0, none⟩ = some (.int .i64 0) := (blk_cell BK208.out 0).trans rfl; have hcz16_1 : w14.cell? ⟨gb208, 1, none⟩ = some (.int .u32 0) := (blk_cell BK208.out 1).trans rfl; have hcz16_2 : w14.cell? ⟨gb208, 2, none⟩ = some (.slice none 0 0) := (blk_cell BK208.out 2).trans rfl; have hfz16_0 := blk_frozen BK208.out 0; have hfz16_1 := blk_frozen BK208.out 1; have hfz16_2 := blk_frozen BK208.out 2; obtain ⟨Ao17, co17, eo17⟩ := Kd.R_slice HO207.out; subst eo17))
      go_loopg [9] k (fun kq v9 w' => ∃ (x9_1 : Int) (x203000_1 : Int) (x203001_1 : Int) (x203002_1 : (List (Int × S37))) (x209000_1 : Int) (x209001_1 : Int) (x209002_1 : List (S37)) (u209002 : Value), v9 = .int .i64 x9_1 ∧ Aside0 (consortlaw10_StreamPlays.l0 kq l1 a2 x9_1 x203000_1 x203001_1 x203002_1 x209000_1 x209001_1 x209002_1 = some true) ∧ Aside0 (kq ≤ k) ∧ Aside0 (Kd.R k37 37 w' w.heap.size (fun _ => True) u209002 x209002_1) ∧ Aside0 (w'.heap[gb208]? = some (.cells #[.int .i64 x209000_1, .int .u32 x209001_1, u209002] 29 (0, 0))) ∧ Aside0 (IsS56 w w' g202 x203000_1 x203001_1 x203002_1) ∧ Aside0 (Below w.heap.size w w'))
      case atStart => exact ⟨(0), (t199), (t200), (t201), (t203), (t204), (t205), (.slice Ao17 t205.length co17), (by first | rfl | (simp; done) | (simp [*]; done)), H', ⟨Nat.le_refl _⟩, ⟨by (with_reducible repeat (first | apply Kd.R_alloc | apply Kd.R_drewN | apply Kd.R_drew)); exact Kd.R_mono (Kd.R_far (p := ⟨gb208, 2, none⟩) (Kd.R_far (p := ⟨gb208, 1, none⟩) (Kd.R_far (p := ⟨gb208, 0, none⟩) (Kd.R_types HO207.out BK208.out (by first | decide | exact Nat.succ_pos _ | exact ne_of_E rfl (by decide))) (fun _ hk => hk.2) (.int .i64 t203)) (fun _ hk => hk.2) (.int .u32 t204)) (fun _ hk => hk.2) (.slice Ao17 t205.length co17)) (fun _ hk => trivial)⟩, ⟨by (with_reducible repeat (first | refine blk_drewN ?_ _ | refine blk_drew ?_ | refine blk_alloc ?_ _)); refine blk_put (cs := #[.int .i64 t203, .int .u32 t204, .slice none 0 0]) ?_ 2 _ rfl; (with_reducible repeat (first | refine blk_drewN ?_ _ | refine blk_drew ?_ | refine blk_alloc ?_ _)); refine blk_put (cs := #[.int .i64 t203, .int .u32 0, .slice none 0 0]) ?_ 1 _ rfl; (with_reducible repeat (first | refine blk_drewN ?_ _ | refine blk_drew ?_ | refine blk_alloc ?_ _)); refine blk_put (cs := #[.int .i64 0, .int .u32 0, .slice none 0 0]) ?_ 0 _ rfl; (with_reducible repeat (first | refine blk_drewN ?_ _ | refine blk_drew ?_ | refine blk_alloc ?_ _)); exact BK208.out⟩, ⟨by repeat (first | (with_reducible first | exact HI202.out | apply IsS56.alloc | apply IsS56.drewN | apply IsS56.drew | apply IsS56.set_0 | apply IsS56.set_1 | apply IsS56.set_2 | refine IsS56.far ?_ NB202_208.out _) | exact HI202.out)⟩, ⟨by repeat (first | (with_reducible first | exact HB.out | apply below_alloc | apply pw_below_drewN | apply below_drew1 | refine below_set ?_ (IsS56.ge HI202.out) | refine below_set ?_ GE208.out) | exact HB.out)⟩⟩
      case round =>
        clear H'
        try clear c1
        try clear p2
        try clear c3
        try clear c5
        try clear c7
        try clear c8
        try clear c9
        try clear c10
        try clear c15
        try clear hcz16_0
        try clear hcz16_1
        try clear hcz16_2
        try clear hfz16_0
        try clear hfz16_1
        try clear hfz16_2
        obtain ⟨x9_1, x203000_1, x203001_1, x203002_1, x209000_1, x209001_1, x209002_1, u209002, rfl, HA, HK1, HO_209002, BK208, HI202, HB⟩ := hrel
        cases gk with
        | zero => exact absurd HA.out (by simp [consortlaw10_StreamPlays.l0])
        | succ k1 =>
          have H := HA.out
          clear HA
          simp only [consortlaw10_StreamPlays.l0] at H
          by_cases c18 : x9_1 < (l1.length : Int)
          · rw [if_pos c18] at H
            have c18b0 : decide (x9_1 < (l1.length : Int)) = true := decide_eq_true c18
            clear c18
            by_cases c19 : 0 ≤ x9_1
            · rw [if_pos c19] at H
              have c19b0 : decide (0 ≤ x9_1) = true := decide_eq_true c19
              clear c19
              replace H := Option.bind_eq_some_iff.mp H
              obtain ⟨⟨t210, t213, t214, t215, t216⟩, A200, H⟩ := H
              replace H : ((consortref10_Take.f k1 x209000_1 x209001_1 x209002_1 ((rd_T37 l1 x9_1).f0) ((rd_T37 l1 x9_1).f1) ((rd_T37 l1 x9_1).f2) ((rd_T37 l1 x9_1).f3) ((rd_T37 l1 x9_1).f4) ((rd_T37 l1 x9_1).f5)).bind fun bt218 => ((stream_Lacks.f t214 t215 t216 a2).bind fun bt228 => ((consortref10_Lacks.f bt218.1 bt218.2.1 bt218.2.2.1 a2).bind fun bt233 => ((consortref03_All.f k1 t210 bt218.2.2.2.1).bind fun t235 => (if t235 = true then (if t213 = bt218.2.2.2.2 then ((stream_Count.f bt228.2.2.1 bt228.2.2.2.1 bt228.2.2.2.2).bind fun bt236 => (if bt236.1 = bt218.2.1 then ((stream_Held.f bt236.2.1 bt236.2.2.1 bt236.2.2.2).bind fun bt240 => (if bt240.1 = (bt218.2.2.1.length : Int) then (if bt228.1 = bt233.1 then (if (bt228.2.1 != bt233.2) = true then (some false) else (consortlaw10_StreamPlays.l0 k1 l1 a2 (wrap64 (x9_1 + 1)) bt240.2.1 bt240.2.2.1 bt240.2.2.2 bt218.1 bt218.2.1 bt218.2.2.1)) else (some false)) else (some false))) else (some false))) else (some false)) else (some false)))))) = some true := H
              have A20 := Aside0.mk A200
              clear A200
              replace H := Option.bind_eq_some_iff.mp H
              obtain ⟨⟨t218, t219, t220, t223, t226⟩, A210, H⟩ := H
              replace H : ((stream_Lacks.f t214 t215 t216 a2).bind fun bt228 => ((consortref10_Lacks.f t218 t219 t220 a2).bind fun bt233 => ((consortref03_All.f k1 t210 t223).bind fun t235 => (if t235 = true then (if t213 = t226 then ((stream_Count.f bt228.2.2.1 bt228.2.2.2.1 bt228.2.2.2.2).bind fun bt236 => (if bt236.1 = t219 then ((stream_Held.f bt236.2.1 bt236.2.2.1 bt236.2.2.2).bind fun bt240 => (if bt240.1 = (t220.length : Int) then (if bt228.1 = bt233.1 then (if (bt228.2.1 != bt233.2) = true then (some false) else (consortlaw10_StreamPlays.l0 k1 l1 a2 (wrap64 (x9_1 + 1)) bt240.2.1 bt240.2.2.1 bt240.2.2.2 t218 t219 t220)) else (some false)) else (some false))) else (some false))) else (some false)) else (some false))))) = some true := H
              have A21 := Aside0.mk A210
              clear A210
              replace H := Option.bind_eq_some_iff.mp H
              obtain ⟨⟨t228, t229, t230, t231, t232⟩, A220, H⟩ := H
              replace H : ((consortref10_Lacks.f t218 t219 t220 a2).bind fun bt233 => ((consortref03_All.f k1 t210 t223).bind fun t235 => (if t235 = true then (if t213 = t226 then ((stream_Count.f t230 t231 t232).bind fun bt236 => (if bt236.1 = t219 then ((stream_Held.f bt236.2.1 bt236.2.2.1 bt236.2.2.2).bind fun bt240 => (if bt240.1 = (t220.length : Int) then (if t228 = bt233.1 then (if (t229 != bt233.2) = true then (some false) else (consortlaw10_StreamPlays.l0 k1 l1 a2 (wrap64 (x9_1 + 1)) bt240.2.1 bt240.2.2.1 bt240.2.2.2 t218 t219 t220)) else (some false)) else (some false))) else (some false))) else (some false)) else (some false)))) = some true := H
              have A22 := Aside0.mk A220
              clear A220
              replace H := Option.bind_eq_some_iff.mp H
              obtain ⟨⟨t233, t234⟩, A230, H⟩ := H
              replace H : ((consortref03_All.f k1 t210 t223).bind fun t235 => (if t235 = true then (if t213 = t226 then ((stream_Count.f t230 t231 t232).bind fun bt236 => (if bt236.1 = t219 then ((stream_Held.f bt236.2.1 bt236.2.2.1 bt236.2.2.2).bind fun bt240 => (if bt240.1 = (t220.length : Int) then (if t228 = t233 then (if (t229 != t234) = true then (some false) else (consortlaw10_StreamPlays.l0 k1 l1 a2 (wrap64 (x9_1 + 1)) bt240.2.1 bt240.2.2.1 bt240.2.2.2 t218 t219 t220)) else (some false)) else (some false))) else (some false))) else (some false)) else (some false))) = some true := H
              have A23 := Aside0.mk A230
              clear A230
              replace H := Option.bind_eq_some_iff.mp H
              obtain ⟨t235, A240, H⟩ := H
              replace H : (if t235 = true then (if t213 = t226 then ((stream_Count.f t230 t231 t232).bind fun bt236 => (if bt236.1 = t219 then ((stream_Held.f bt236.2.1 bt236.2.2.1 bt236.2.2.2).bind fun bt240 => (if bt240.1 = (t220.length : Int) then (if t228 = t233 then (if (t229 != t234) = true then (some false) else (consortlaw10_StreamPlays.l0 k1 l1 a2 (wrap64 (x9_1 + 1)) bt240.2.1 bt240.2.2.1 bt240.2.2.2 t218 t219 t220)) else (some false)) else (some false))) else (some false))) else (some false)) else (some false)) = some true := H
              have A24 := Aside0.mk A240
              clear A240
              by_cases c25 : t235 = true
              · subst c25
                have H1 : (if t213 = t226 then ((stream_Count.f t230 t231 t232).bind fun bt236 => (if bt236.1 = t219 then ((stream_Held.f bt236.2.1 bt236.2.2.1 bt236.2.2.2).bind fun bt240 => (if bt240.1 = (t220.length : Int) then (if t228 = t233 then (if (t229 != t234) = true then (some false) else (consortlaw10_StreamPlays.l0 k1 l1 a2 (wrap64 (x9_1 + 1)) bt240.2.1 bt240.2.2.1 bt240.2.2.2 t218 t219 t220)) else (some false)) else (some false))) else (some false))) else (some false)) = some true := by first | (rw [if_pos rfl] at H; done) | (rw [if_pos rfl] at H; exact H)
                clear H
                have H := H1
                clear H1
                by_cases c26 : t213 = t226
                · rw [if_pos c26] at H
                  have c26b0 : (t213 == t226) = true := beq_iff_eq.mpr c26
                  have c26b1 : (t213 != t226) = false := bne_eq_false_iff_eq.mpr c26
                  clear c26
                  replace H := Option.bind_eq_some_iff.mp H
                  obtain ⟨⟨t236, t237, t238, t239⟩, A270, H⟩ := H
                  replace H : (if t236 = t219 then ((stream_Held.f t237 t238 t239).bind fun bt240 => (if bt240.1 = (t220.length : Int) then (if t228 = t233 then (if (t229 != t234) = true then (some false) else (consortlaw10_StreamPlays.l0 k1 l1 a2 (wrap64 (x9_1 + 1)) bt240.2.1 bt240.2.2.1 bt240.2.2.2 t218 t219 t220)) else (some false)) else (some false))) else (some false)) = some true := H
                  have A27 := Aside0.mk A270
                  clear A270
                  by_cases c28 : t236 = t219
                  · rw [if_pos c28] at H
                    have c28b0 : (t236 == t219) = true := beq_iff_eq.mpr c28
                    have c28b1 : (t236 != t219) = false := bne_eq_false_iff_eq.mpr c28
                    clear c28
                    replace H := Option.bind_eq_some_iff.mp H
                    obtain ⟨⟨t240, t241, t242, t243⟩, A290, H⟩ := H
                    replace H : (if t240 = (t220.length : Int) then (if t228 = t233 then (if (t229 != t234) = true then (some false) else (consortlaw10_StreamPlays.l0 k1 l1 a2 (wrap64 (x9_1 + 1)) t241 t242 t243 t218 t219 t220)) else (some false)) else (some false)) = some true := H
                    have A29 := Aside0.mk A290
                    clear A290
                    by_cases c30 : t240 = (t220.length : Int)
                    · rw [if_pos c30] at H
                      have c30b0 : (t240 == (t220.length : Int)) = true := beq_iff_eq.mpr c30
                      have c30b1 : (t240 != (t220.length : Int)) = false := bne_eq_false_iff_eq.mpr c30
                      clear c30
                      by_cases c31 : t228 = t233
                      · rw [if_pos c31] at H
                        have c31b0 : (t228 == t233) = true := beq_iff_eq.mpr c31
                        have c31b1 : (t228 != t233) = false := bne_eq_false_iff_eq.mpr c31
                        clear c31
                        by_cases c32 : (t229 != t234) = true
                        · rw [if_pos c32] at H
                          have c32b0 : (t229 != t234) = true := c32
                          (try (have c32b1 : decide (t229 = t234) = false := by simpa using c32))
                          (try (have c32b2 : (t229 == t234) = false := by simpa using c32))
                          (try (have c32b3 : ¬ (t229 = t234) := by simpa using c32))
                          clear c32
                          exact absurd H (by simp)
                        · rw [if_neg c32] at H
                          have c32b0 : (t229 != t234) = false := by simpa using c32
                          (try (have c32b1 : decide (t229 = t234) = true := by simpa using c32))
                          (try (have c32b2 : (t229 == t234) = true := by simpa using c32))
                          clear c32
                          have H' := Aside0.mk H
                          clear H
                          have p209 : 0 ≤ (x9_1 : Int) := of_decide_eq_true (by first | (with_reducible assumption) | assumption)
                          have q209 : x9_1 < (l1.length : Int) := of_decide_eq_true (by first | (with_reducible assumption) | assumption)
                          obtain ⟨ad209, e209, hx209_0, hx209_1, hx209_2, hx209_3, hx209_4, hx209_5⟩ := at_T37 HR1.out x9_1 p209 q209
                          cases e209
                          replace hx209_0 := (HB.out.cell (World.block_lt_of_cell? w _ hx209_0)).trans hx209_0
                          replace hx209_1 := (HB.out.cell (World.block_lt_of_cell? w _ hx209_1)).trans hx209_1
                          replace hx209_2 := (HB.out.cell (World.block_lt_of_cell? w _ hx209_2)).trans hx209_2
                          replace hx209_3 := (HB.out.cell (World.block_lt_of_cell? w _ hx209_3)).trans hx209_3
                          replace hx209_4 := (HB.out.cell (World.block_lt_of_cell? w _ hx209_4)).trans hx209_4
                          replace hx209_5 := (HB.out.cell (World.block_lt_of_cell? w _ hx209_5)).trans hx209_5
                          replace p209 := eq_true p209
                          replace q209 := eq_true q209
                          try go_wp2_with (first | ((with_reducible refine gate_callee (f := 11) rfl ?_); refine goesL_ (some 40) rfl rfl Try.func11 (by kernel_rfl) rfl #[.pointer (some ⟨g202, 0, none⟩), .agg #[.int .i64 ((rd_T37 l1 x9_1).f0), .int .u32 ((rd_T37 l1 x9_1).f1), .int .u64 ((rd_T37 l1 x9_1).f2), .int .i64 ((rd_T37 l1 x9_1).f3), .slice ((rd_T37 l1 x9_1).f4).A ((rd_T37 l1 x9_1).f4).n ((rd_T37 l1 x9_1).f4).c, .string ((rd_T37 l1 x9_1).f5)]] rfl (by (try simp only [List.map_toArray, List.map_cons, List.map_nil]); first | done | rfl | (simp only [List.length_drop, List.length_take]; rfl)) ?_; (with_reducible refine (stream_Take.calls g202 x203000_1 x203001_1 x203002_1 ((rd_T37 l1 x9_1).f0) ((rd_T37 l1 x9_1).f1) ((rd_T37 l1 x9_1).f2) ((rd_T37 l1 x9_1).f3) ((rd_T37 l1 x9_1).f4) ((rd_T37 l1 x9_1).f5) t210 t213 t214 t215 t216 w _ ?side1 ?side2 A20.out).mono ?_); (case side1 => repeat (first | (with_reducible first | exact HI202.out | apply IsS56.alloc | apply IsS56.drewN | apply IsS56.drew | apply IsS56.set_0 | apply IsS56.set_1 | apply IsS56.set_2 | refine IsS56.far ?_ NB202_208.out _) | exact HI202.out)); (case side2 => repeat (first | (with_reducible first | exact HB.out | apply below_alloc | apply pw_below_drewN | apply below_drew1 | refine below_set ?_ (IsS56.ge HI202.out) | refine below_set ?_ GE208.out) | exact HB.out)); rintro e w33 ⟨v211, rfl, ho0, hi, hb, hk⟩; refine ⟨_, rfl, ?_⟩; have n0_ := Aside0.mk (Kd.R_mono (Kd.R_told (Kd.R_oldK (IsS56.apart (show IsS56 w _ g202 x203000_1 x203001_1 x203002_1 from by repeat (first | (with_reducible first | exact HI202.out | apply IsS56.alloc | apply IsS56.drewN | apply IsS56.drew | apply IsS56.set_0 | apply IsS56.set_1 | apply IsS56.set_2 | refine IsS56.far ?_ NB202_208.out _) | exact HI202.out)) (by (with_reducible repeat (first | apply Kd.R_alloc | apply Kd.R_drewN | apply Kd.R_drew)); exact HO_209002.out) (by first | decide | exact Nat.succ_pos _ | exact ne_of_E rfl (by decide))) hk) (Kd.R_base ho0)) (fun _ h_ => h_.1)); have n1_ := Aside0.mk (KeepBut.blk hk (g' := gb208) (o := .cells #[.int .i64 x209000_1, .int .u32 x209001_1, u209002] 29 (0, 0)) (by (with_reducible repeat (first | refine blk_drewN ?_ _ | refine blk_drew ?_ | refine blk_alloc ?_ _)); exact BK208.out) NB208_202.out (by simp)); have n2_ := Aside0.mk (Kd.R_lower (Kd.R_new' ho0 (Kd.R_lt (by (with_reducible repeat (first | apply Kd.R_alloc | apply Kd.R_drewN | apply Kd.R_drew)); exact HO_209002.out))) (below_size (by repeat (first | (with_reducible first | exact HB.out | apply below_alloc | apply pw_below_drewN | apply below_drew1 | refine below_set ?_ (IsS56.ge HI202.out) | refine below_set ?_ GE208.out) | exact HB.out)))); have n3_ := Aside0.mk (hb); have n4_ := Aside0.mk (hi); clear HO_209002; clear BK208; clear HB; clear HI202; have HO_209002 := n0_; have BK208 := n1_; have HO212 := n2_; have HB := n3_; have HI202 := n4_; clear n0_ n1_ n2_ n3_ n4_; (try clear hb); (try clear hb2); (try clear hk); (try clear hi); (try clear ho0); obtain ⟨Ao34, co34, eo34⟩ := Kd.R_slice HO_209002.out; subst eo34))
                          have n0_ := Aside0.mk (Kd.R_drew HO_209002.out)
                          have n1_ := Aside0.mk (Kd.R_drew HO212.out)
                          have n2_ := Aside0.mk (blk_drew BK208.out)
                          have n3_ := Aside0.mk (IsS56.drew HI202.out)
                          have n4_ := Aside0.mk (below_drew1 HB.out)
                          clear HO_209002
                          clear HO212
                          clear BK208
                          clear HI202
                          clear HB
                          have HO_209002 := n0_
                          have HO212 := n1_
                          have BK208 := n2_
                          have HI202 := n3_
                          have HB := n4_
                          clear n0_ n1_ n2_ n3_ n4_
                          have p217 : 0 ≤ (x9_1 : Int) := of_decide_eq_true (by first | (with_reducible assumption) | assumption)
                          have q217 : x9_1 < (l1.length : Int) := of_decide_eq_true (by first | (with_reducible assumption) | assumption)
                          obtain ⟨ad217, e217, hx217_0, hx217_1, hx217_2, hx217_3, hx217_4, hx217_5⟩ := at_T37 HR1.out x9_1 p217 q217
                          have hw217_5 := hx217_5
                          have hw217_4 := hx217_4
                          have hw217_3 := hx217_3
                          have hw217_2 := hx217_2
                          have hw217_1 := hx217_1
                          have hw217_0 := hx217_0
                          obtain rfl : ad209 = ad217 := (by injection e217)
                          replace hx217_0 := (HB.out.cell (World.block_lt_of_cell? w _ hx217_0)).trans hx217_0
                          replace hx217_1 := (HB.out.cell (World.block_lt_of_cell? w _ hx217_1)).trans hx217_1
                          replace hx217_2 := (HB.out.cell (World.block_lt_of_cell? w _ hx217_2)).trans hx217_2
                          replace hx217_3 := (HB.out.cell (World.block_lt_of_cell? w _ hx217_3)).trans hx217_3
                          replace hx217_4 := (HB.out.cell (World.block_lt_of_cell? w _ hx217_4)).trans hx217_4
                          replace hx217_5 := (HB.out.cell (World.block_lt_of_cell? w _ hx217_5)).trans hx217_5
                          replace p217 := eq_true p217
                          replace q217 := eq_true q217
                          refine start_ (n := 14) (S := fun w' => w'.cell? ⟨gb208, 0, none⟩ = some (.int .i64 x209000_1) ∧ w'.cell? ⟨gb208, 1, none⟩ = some (.int .u32 x209001_1) ∧ w'.cell? ⟨gb208, 2, none⟩ = some (.slice Ao34 x209002_1.length co34) ∧ w'.cell? (ad209.add ((x9_1).toNat * 6)) = some (.int .i64 ((rd_T37 l1 x9_1).f0)) ∧ w'.cell? ⟨(ad209.add ((x9_1).toNat * 6)).block, (ad209.add ((x9_1).toNat * 6)).off + 1, none⟩ = some (.int .u32 ((rd_T37 l1 x9_1).f1)) ∧ w'.cell? ⟨(ad209.add ((x9_1).toNat * 6)).block, (ad209.add ((x9_1).toNat * 6)).off + 2, none⟩ = some (.int .u64 ((rd_T37 l1 x9_1).f2)) ∧ w'.cell? ⟨(ad209.add ((x9_1).toNat * 6)).block, (ad209.add ((x9_1).toNat * 6)).off + 3, none⟩ = some (.int .i64 ((rd_T37 l1 x9_1).f3)) ∧ w'.cell? ⟨(ad209.add ((x9_1).toNat * 6)).block, (ad209.add ((x9_1).toNat * 6)).off + 4, none⟩ = some (.slice ((rd_T37 l1 x9_1).f4).A ((rd_T37 l1 x9_1).f4).n ((rd_T37 l1 x9_1).f4).c) ∧ w'.cell? ⟨(ad209.add ((x9_1).toNat * 6)).block, (ad209.add ((x9_1).toNat * 6)).off + 5, none⟩ = some (.string ((rd_T37 l1 x9_1).f5))) (ds := []) #[false, false, false, false, false, false, false, false, false, false, false, false, false, false] (by kernel_rfl) rfl rfl ⟨(blk_cell BK208.out 0).trans rfl, (blk_cell BK208.out 1).trans rfl, (blk_cell BK208.out 2).trans rfl, ((HB.out.cell (World.block_lt_of_cell? w _ hw217_0)).trans hw217_0), ((HB.out.cell (World.block_lt_of_cell? w _ hw217_1)).trans hw217_1), ((HB.out.cell (World.block_lt_of_cell? w _ hw217_2)).trans hw217_2), ((HB.out.cell (World.block_lt_of_cell? w _ hw217_3)).trans hw217_3), ((HB.out.cell (World.block_lt_of_cell? w _ hw217_4)).trans hw217_4), ((HB.out.cell (World.block_lt_of_cell? w _ hw217_5)).trans hw217_5)⟩ (fun hHeld => ?_); refine with_tabW consortlaw10_StreamPlays.tab10 consortlaw10_StreamPlays.bits10 (fun HT_ HW_ => ?_)
                          generalize w33.drew = w35 at HO_209002 HO212 BK208 HI202 HB hx217_0 hx217_1 hx217_2 hx217_3 hx217_4 hx217_5 hHeld ⊢
                          refine pure_ (i := 1) (N := some 45) (v := ?_) (a' := ?_) #[false, true, false, false, false, false, false, false, false, false, false, false, false, false] rfl rfl (any_of HT_.out (by kernel_rfl)) (fun _ _ _ h => h) (Or.inl ⟨by rfl, ?_⟩) ?_ ?_
                          rotate_left
                          · intro w'
                            go_simp
                            with_reducible rfl
                          rotate_left
                          · simp only [Act.put, List.setIfInBounds_toArray, List.set_cons_zero, List.set_cons_succ, i64_w, i32_w]
                            rfl
                          refine pure_ (i := 2) (N := some 46) (v := ?_) (a' := ?_) #[false, true, true, false, false, false, false, false, false, false, false, false, false, false] rfl rfl (any_of HT_.out (by kernel_rfl)) (fun _ _ _ h => h) (Or.inl ⟨by rfl, ?_⟩) ?_ ?_
                          rotate_left
                          · intro w'
                            go_simp
                            with_reducible rfl
                          rotate_left
                          · simp only [Act.put, List.setIfInBounds_toArray, List.set_cons_zero, List.set_cons_succ, i64_w, i32_w]
                            rfl
                          refine pure_ (i := 3) (N := some 47) (v := ?_) (a' := ?_) #[false, true, true, true, false, false, false, false, false, false, false, false, false, false] rfl rfl (any_of HT_.out (by kernel_rfl)) (fun _ _ _ h => h) (Or.inl ⟨by rfl, ?_⟩) ?_ ?_
                          rotate_left
                          · intro w'
                            go_simp
                            with_reducible rfl
                          rotate_left
                          · simp only [Act.put, List.setIfInBounds_toArray, List.set_cons_zero, List.set_cons_succ, i64_w, i32_w]
                            rfl
                          refine take_ (i := 0) (N := some 44) (v := ?_) (a' := ?_) #[true, true, true, true, false, false, false, false, false, false, false, false, false, false] rfl rfl (take_ofW HT_.out HW_.out (by kernel_rfl)) (fun _ _ _ h => h) (Or.inl ⟨by rfl, ?_⟩) hHeld ?_ ?_
                          rotate_left
                          · rintro w' ⟨s0, s1, s2, s3, s4, s5, s6, s7, s8⟩
                            go_simp
                            with_reducible rfl
                          rotate_left
                          · simp only [Act.put, List.setIfInBounds_toArray, List.set_cons_zero, List.set_cons_succ, i64_w, i32_w]
                            rfl
                          refine take_ (i := 4) (N := some 48) (v := ?_) (a' := ?_) #[true, true, true, true, true, false, false, false, false, false, false, false, false, false] rfl rfl (take_ofW HT_.out HW_.out (by kernel_rfl)) (fun _ _ _ h => h) (Or.inl ⟨by rfl, ?_⟩) hHeld ?_ ?_
                          rotate_left
                          · rintro w' ⟨s0, s1, s2, s3, s4, s5, s6, s7, s8⟩
                            go_simp
                            with_reducible rfl
                          rotate_left
                          · simp only [Act.put, List.setIfInBounds_toArray, List.set_cons_zero, List.set_cons_succ, i64_w, i32_w]
                            rfl
                          refine join_ (σ := Value × Value × Nat) 3 #[true, true, true, true, true, true, true, true, true, true, true, false, false, false] (fun s_ => [(49, .tuple #[.agg #[.int .i64 t218, .int .u32 t219, s_.1], s_.2.1, .int .i64 t226]), (12, .pointer (some ⟨s_.2.2, 0, none⟩)), (43, .tuple #[.agg #[.int .i64 t218, .int .u32 t219, s_.1], s_.2.1, .int .i64 t226]), (50, .agg #[.int .i64 t218, .int .u32 t219, s_.1]), (51, s_.2.1), (52, .int .i64 t226)]) (fun s_ w' => (w'.cell? ⟨gb208, 0, none⟩ = some (.int .i64 x209000_1) ∧ w'.cell? ⟨gb208, 1, none⟩ = some (.int .u32 x209001_1) ∧ w'.cell? ⟨gb208, 2, none⟩ = some (.slice Ao34 x209002_1.length co34) ∧ w'.cell? (ad209.add ((x9_1).toNat * 6)) = some (.int .i64 ((rd_T37 l1 x9_1).f0)) ∧ w'.cell? ⟨(ad209.add ((x9_1).toNat * 6)).block, (ad209.add ((x9_1).toNat * 6)).off + 1, none⟩ = some (.int .u32 ((rd_T37 l1 x9_1).f1)) ∧ w'.cell? ⟨(ad209.add ((x9_1).toNat * 6)).block, (ad209.add ((x9_1).toNat * 6)).off + 2, none⟩ = some (.int .u64 ((rd_T37 l1 x9_1).f2)) ∧ w'.cell? ⟨(ad209.add ((x9_1).toNat * 6)).block, (ad209.add ((x9_1).toNat * 6)).off + 3, none⟩ = some (.int .i64 ((rd_T37 l1 x9_1).f3)) ∧ w'.cell? ⟨(ad209.add ((x9_1).toNat * 6)).block, (ad209.add ((x9_1).toNat * 6)).off + 4, none⟩ = some (.slice ((rd_T37 l1 x9_1).f4).A ((rd_T37 l1 x9_1).f4).n ((rd_T37 l1 x9_1).f4).c) ∧ w'.cell? ⟨(ad209.add ((x9_1).toNat * 6)).block, (ad209.add ((x9_1).toNat * 6)).off + 5, none⟩ = some (.string ((rd_T37 l1 x9_1).f5))) ∧ (Kd.R k37 37 w' w.heap.size (fun k_ => some k_ ≠ (s_.1 : Value).ownBlock ∧ some k_ ≠ (s_.2.1 : Value).ownBlock) v211 t210) ∧ (Kd.R k37 37 w' w.heap.size (fun k_ => some k_ ≠ (v211 : Value).ownBlock ∧ some k_ ≠ (s_.2.1 : Value).ownBlock) s_.1 t220) ∧ (Kd.R k37 37 w' w.heap.size (fun k_ => some k_ ≠ (v211 : Value).ownBlock ∧ some k_ ≠ (s_.1 : Value).ownBlock) s_.2.1 t223) ∧ (w'.heap[gb208]? = some (.cells #[.int .i64 x209000_1, .int .u32 x209001_1, .slice Ao34 x209002_1.length co34] 29 (0, 0))) ∧ (w'.heap[s_.2.2]? = some (.cells #[.int .i64 0, .int .u32 0, .slice none 0 0] 29 (0, 0))) ∧ (w.heap.size ≤ s_.2.2) ∧ (w.heap.size ≤ s_.2.2) ∧ (g202 ≠ s_.2.2) ∧ (s_.2.2 ≠ g202) ∧ (gb208 ≠ s_.2.2) ∧ (s_.2.2 ≠ gb208) ∧ (IsS56 w w' g202 t214 t215 t216) ∧ (Below w.heap.size w w')) ?_ ?_
                          rotate_left
                          · intro hCont
                            refine two_ (i := 5) (j := 10) (Ni := some 49) (Nj := some 12) #[true, true, true, true, true, true, false, false, false, false, false, false, false, false] #[true, true, true, true, true, false, false, false, false, false, true, false, false, false] rfl rfl rfl rfl (two_of HT_.out (by kernel_rfl)) (by first | decide | exact Nat.succ_pos _ | exact ne_of_E rfl (by decide)) (by first | decide | exact Nat.succ_pos _ | exact ne_of_E rfl (by decide)) (fun K hK => ?_) (fun K hK => ?_)
                            · skip
                              refine goes_ Try.func12 (by kernel_rfl) rfl #[.agg #[.int .i64 x209000_1, .int .u32 x209001_1, .slice Ao34 x209002_1.length co34], .agg #[.int .i64 ((rd_T37 l1 x9_1).f0), .int .u32 ((rd_T37 l1 x9_1).f1), .int .u64 ((rd_T37 l1 x9_1).f2), .int .i64 ((rd_T37 l1 x9_1).f3), .slice ((rd_T37 l1 x9_1).f4).A ((rd_T37 l1 x9_1).f4).n ((rd_T37 l1 x9_1).f4).c, .string ((rd_T37 l1 x9_1).f5)]] (by rfl) rfl rfl (by (try simp only [List.map_toArray, List.map_cons, List.map_nil]); first | done | rfl | (simp only [List.length_drop, List.length_take]; rfl)) ?_
                              with_reducible refine (consortref10_Take.calls k1 x209000_1 x209001_1 (fun k_ => some k_ = (.slice Ao34 x209002_1.length co34 : Value).ownBlock) (.slice Ao34 x209002_1.length co34) x209002_1 ((rd_T37 l1 x9_1).f0) ((rd_T37 l1 x9_1).f1) ((rd_T37 l1 x9_1).f2) ((rd_T37 l1 x9_1).f3) ((rd_T37 l1 x9_1).f4) ((rd_T37 l1 x9_1).f5) t218 t219 t220 t223 t226 w _ ?side1 ?side2 A21.out).mono ?_
                              (case side1 => repeat (first | (with_reducible first | exact HB.out | apply below_alloc | apply pw_below_drewN | apply below_drew1 | refine below_set ?_ (IsS56.ge HI202.out) | refine below_set ?_ GE208.out) | exact HB.out))
                              (case side2 => exact Kd.R_tight rfl HO_209002.out)
                              rintro e w36 ⟨v221, v224, rfl, ho0, ho1, hb, hkp⟩
                              refine ⟨_, rfl, ?_⟩
                              have n0_ := Aside0.mk (blk_kept (by (with_reducible repeat (first | refine blk_drewN ?_ _ | refine blk_drew ?_ | refine blk_alloc ?_ _)); exact BK208.out) hkp (fun hs_ => (fun e_ => (Kd.R_ne HO_209002.out BK208.out (by first | decide | exact Nat.succ_pos _ | exact ne_of_E rfl (by decide))) e_) hs_))
                              have n1_ := Aside0.mk (IsS56.kept (by repeat (first | (with_reducible first | exact HI202.out | apply IsS56.alloc | apply IsS56.drewN | apply IsS56.drew | apply IsS56.set_0 | apply IsS56.set_1 | apply IsS56.set_2 | refine IsS56.far ?_ NB202_208.out _) | exact HI202.out)) hkp (IsS56.own_ne HI202.out HO_209002.out (by first | decide | exact Nat.succ_pos _ | exact ne_of_E rfl (by decide))))
                              have n2_ := Aside0.mk (Kd.R_mono (ok' := fun k_ => some k_ ≠ (v221 : Value).ownBlock ∧ some k_ ≠ (v224 : Value).ownBlock) (Kd.R_keptB (HO212.out) hkp (fun k_ hk_ hs_ => (hk_.2) hs_)) (fun k_ hk_ => ⟨fun e_ => Or.elim (ho0.1 k_ e_.symm).1 (fun hs_ => hk_.2.1 hs_) (fun hn_ => Nat.not_le.2 hk_.2.2 hn_), fun e_ => Or.elim (ho1.1 k_ e_.symm).1 (fun hs_ => hk_.2.1 hs_) (fun hn_ => Nat.not_le.2 hk_.2.2 hn_)⟩))
                              have n3_ := Aside0.mk (Kd.R_mono (ok' := fun k_ => some k_ ≠ (v224 : Value).ownBlock ∧ some k_ ≠ (v211 : Value).ownBlock) ho0 (fun k_ hk_ => ⟨hk_.2, Or.elim hk_.1 (fun hs_ => fun e_ => (((HO212.out).1 k_ e_.symm).2) hs_) (fun hn_ => (Kd.fresh' (Kd.R_lt (by (with_reducible repeat (first | apply Kd.R_alloc | apply Kd.R_drewN | apply Kd.R_drew)); exact HO212.out)) k_ hn_))⟩))
                              have n4_ := Aside0.mk (Kd.R_mono (ok' := fun k_ => some k_ ≠ (v221 : Value).ownBlock ∧ some k_ ≠ (v211 : Value).ownBlock) ho1 (fun k_ hk_ => ⟨hk_.2, Or.elim hk_.1 (fun hs_ => fun e_ => (((HO212.out).1 k_ e_.symm).2) hs_) (fun hn_ => (Kd.fresh' (Kd.R_lt (by (with_reducible repeat (first | apply Kd.R_alloc | apply Kd.R_drewN | apply Kd.R_drew)); exact HO212.out)) k_ hn_))⟩))
                              have n5_ := Aside0.mk (hb)
                              clear BK208
                              clear HI202
                              clear HO212
                              clear HB
                              clear HO_209002
                              have BK208 := n0_
                              have HI202 := n1_
                              have HO212 := n2_
                              have HO222 := n3_
                              have HO225 := n4_
                              have HB := n5_
                              clear n0_ n1_ n2_ n3_ n4_ n5_
                              (try clear hb)
                              (try clear hkp)
                              (try clear ho0)
                              (try clear ho1)
                              refine hK.out _ _ ⟨(blk_cell BK208.out 0).trans rfl, (blk_cell BK208.out 1).trans rfl, (blk_cell BK208.out 2).trans rfl, ((HB.out.cell (World.block_lt_of_cell? w _ hw217_0)).trans hw217_0), ((HB.out.cell (World.block_lt_of_cell? w _ hw217_1)).trans hw217_1), ((HB.out.cell (World.block_lt_of_cell? w _ hw217_2)).trans hw217_2), ((HB.out.cell (World.block_lt_of_cell? w _ hw217_3)).trans hw217_3), ((HB.out.cell (World.block_lt_of_cell? w _ hw217_4)).trans hw217_4), ((HB.out.cell (World.block_lt_of_cell? w _ hw217_5)).trans hw217_5)⟩ (fun hHeld => ?_)
                              clear hK K
                              refine norm_ (a' := ?_) ?_ ?_
                              rotate_left
                              · show Act.put _ (some 49) _ = _
                                simp only [Act.put, List.setIfInBounds_toArray, List.set_cons_zero, List.set_cons_succ, i64_w, i32_w]
                                rfl
                              refine pure_ (i := 6) (N := some 43) (v := ?_) (a' := ?_) #[true, true, true, true, true, true, true, false, false, false, false, false, false, false] rfl rfl (any_of HT_.out (by kernel_rfl)) (fun _ _ _ h => h) (Or.inl ⟨by rfl, ?_⟩) ?_ ?_
                              rotate_left
                              · intro w'
                                go_simp
                                with_reducible rfl
                              rotate_left
                              · simp only [Act.put, List.setIfInBounds_toArray, List.set_cons_zero, List.set_cons_succ, i64_w, i32_w]
                                rfl
                              refine pure_ (i := 7) (N := some 50) (v := ?_) (a' := ?_) #[true, true, true, true, true, true, true, true, false, false, false, false, false, false] rfl rfl (any_of HT_.out (by kernel_rfl)) (fun _ _ _ h => h) (Or.inl ⟨by rfl, ?_⟩) ?_ ?_
                              rotate_left
                              · intro w'
                                go_simp
                                with_reducible rfl
                              rotate_left
                              · simp only [Act.put, List.setIfInBounds_toArray, List.set_cons_zero, List.set_cons_succ, i64_w, i32_w]
                                rfl
                              refine pure_ (i := 8) (N := some 51) (v := ?_) (a' := ?_) #[true, true, true, true, true, true, true, true, true, false, false, false, false, false] rfl rfl (any_of HT_.out (by kernel_rfl)) (fun _ _ _ h => h) (Or.inl ⟨by rfl, ?_⟩) ?_ ?_
                              rotate_left
                              · intro w'
                                go_simp
                                with_reducible rfl
                              rotate_left
                              · simp only [Act.put, List.setIfInBounds_toArray, List.set_cons_zero, List.set_cons_succ, i64_w, i32_w]
                                rfl
                              refine pure_ (i := 9) (N := some 52) (v := ?_) (a' := ?_) #[true, true, true, true, true, true, true, true, true, true, false, false, false, false] rfl rfl (any_of HT_.out (by kernel_rfl)) (fun _ _ _ h => h) (Or.inl ⟨by rfl, ?_⟩) ?_ ?_
                              rotate_left
                              · intro w'
                                go_simp
                                with_reducible rfl
                              rotate_left
                              · simp only [Act.put, List.setIfInBounds_toArray, List.set_cons_zero, List.set_cons_succ, i64_w, i32_w]
                                rfl
                              refine one_ (i := 10) (N := some 12) #[true, true, true, true, true, true, true, true, true, true, true, false, false, false] rfl rfl (one_of HT_.out (by kernel_rfl)) (by first | decide | exact Nat.succ_pos _ | exact ne_of_E rfl (by decide)) (fun K hK => ?_)
                              refine box_step ?hg (N := 12) ?hd (cs := #[.int .i64 0, .int .u32 0, .slice none 0 0]) (t := 29) ?hr ?_; (case hd => rfl); (case hg => rfl); (case hr => first | (go_simp; done) | (go_simp; rfl))
                              intro gb227 hg w37 hbox hb
                              have n0_ := Aside0.mk (Kd.R_below (by (with_reducible repeat (first | apply Kd.R_alloc | apply Kd.R_drewN | apply Kd.R_drew)); exact HO212.out) hb)
                              have n1_ := Aside0.mk (Kd.R_below (by (with_reducible repeat (first | apply Kd.R_alloc | apply Kd.R_drewN | apply Kd.R_drew)); exact HO222.out) hb)
                              have n2_ := Aside0.mk (Kd.R_below (by (with_reducible repeat (first | apply Kd.R_alloc | apply Kd.R_drewN | apply Kd.R_drew)); exact HO225.out) hb)
                              have n3_ := Aside0.mk (blk_below (g := gb208) (o := .cells #[.int .i64 x209000_1, .int .u32 x209001_1, .slice Ao34 x209002_1.length co34] 29 (0, 0)) (by (with_reducible repeat (first | refine blk_drewN ?_ _ | refine blk_drew ?_ | refine blk_alloc ?_ _)); exact BK208.out) hb)
                              have n4_ := Aside0.mk (IsS56.below (by repeat (first | (with_reducible first | exact HI202.out | apply IsS56.alloc | apply IsS56.drewN | apply IsS56.drew | apply IsS56.set_0 | apply IsS56.set_1 | apply IsS56.set_2 | refine IsS56.far ?_ NB202_208.out _) | exact HI202.out)) hb)
                              have n5_ := Aside0.mk (below_step (by repeat (first | (with_reducible first | exact HB.out | apply below_alloc | apply pw_below_drewN | apply below_drew1 | refine below_set ?_ (IsS56.ge HI202.out) | refine below_set ?_ GE208.out) | exact HB.out)) hb)
                              have n6_ := Aside0.mk (hbox)
                              have n7_ := Aside0.mk ((by rw [hg]; exact (below_size (by repeat (first | (with_reducible first | exact HB.out | apply below_alloc | apply pw_below_drewN | apply below_drew1 | refine below_set ?_ (IsS56.ge HI202.out) | refine below_set ?_ GE208.out) | exact HB.out))) : w.heap.size ≤ gb227))
                              have n8_ := Aside0.mk ((by rw [hg]; exact (below_size (by repeat (first | (with_reducible first | exact HB.out | apply below_alloc | apply pw_below_drewN | apply below_drew1 | refine below_set ?_ (IsS56.ge HI202.out) | refine below_set ?_ GE208.out) | exact HB.out))) : w.heap.size ≤ gb227))
                              have n9_ := Aside0.mk ((by rw [hg]; exact Nat.ne_of_lt (blk_lt (g := gb208) (o := .cells #[.int .i64 x209000_1, .int .u32 x209001_1, .slice Ao34 x209002_1.length co34] 29 (0, 0)) (by (with_reducible repeat (first | refine blk_drewN ?_ _ | refine blk_drew ?_ | refine blk_alloc ?_ _)); exact BK208.out)) : gb208 ≠ gb227))
                              have n10_ := Aside0.mk ((by rw [hg]; exact Nat.ne_of_gt (blk_lt (g := gb208) (o := .cells #[.int .i64 x209000_1, .int .u32 x209001_1, .slice Ao34 x209002_1.length co34] 29 (0, 0)) (by (with_reducible repeat (first | refine blk_drewN ?_ _ | refine blk_drew ?_ | refine blk_alloc ?_ _)); exact BK208.out)) : gb227 ≠ gb208))
                              have n11_ := Aside0.mk ((by rw [hg]; exact Nat.ne_of_lt (IsS56.lt (show IsS56 w _ g202 t214 t215 t216 from by repeat (first | (with_reducible first | exact HI202.out | apply IsS56.alloc | apply IsS56.drewN | apply IsS56.drew | apply IsS56.set_0 | apply IsS56.set_1 | apply IsS56.set_2 | refine IsS56.far ?_ NB202_208.out _) | exact HI202.out))) : g202 ≠ gb227))
                              have n12_ := Aside0.mk ((by rw [hg]; exact Nat.ne_of_gt (IsS56.lt (show IsS56 w _ g202 t214 t215 t216 from by repeat (first | (with_reducible first | exact HI202.out | apply IsS56.alloc | apply IsS56.drewN | apply IsS56.drew | apply IsS56.set_0 | apply IsS56.set_1 | apply IsS56.set_2 | refine IsS56.far ?_ NB202_208.out _) | exact HI202.out))) : gb227 ≠ g202))
                              clear HO212
                              clear HO222
                              clear HO225
                              clear BK208
                              clear HI202
                              clear HB
                              have HO212 := n0_
                              have HO222 := n1_
                              have HO225 := n2_
                              have BK208 := n3_
                              have HI202 := n4_
                              have HB := n5_
                              have BK227 := n6_
                              have GW227 := n7_
                              have GE227 := n8_
                              have NB208_227 := n9_
                              have NB227_208 := n10_
                              have NB202_227 := n11_
                              have NB227_202 := n12_
                              clear n0_ n1_ n2_ n3_ n4_ n5_ n6_ n7_ n8_ n9_ n10_ n11_ n12_
                              clear hb hbox hg
                              refine hK.out _ _ ⟨(blk_cell BK208.out 0).trans rfl, (blk_cell BK208.out 1).trans rfl, (blk_cell BK208.out 2).trans rfl, ((HB.out.cell (World.block_lt_of_cell? w _ hw217_0)).trans hw217_0), ((HB.out.cell (World.block_lt_of_cell? w _ hw217_1)).trans hw217_1), ((HB.out.cell (World.block_lt_of_cell? w _ hw217_2)).trans hw217_2), ((HB.out.cell (World.block_lt_of_cell? w _ hw217_3)).trans hw217_3), ((HB.out.cell (World.block_lt_of_cell? w _ hw217_4)).trans hw217_4), ((HB.out.cell (World.block_lt_of_cell? w _ hw217_5)).trans hw217_5)⟩ (fun hHeld => ?_)
                              clear hK K
                              refine norm_ (a' := ?_) ?_ ?_
                              rotate_left
                              · show Act.put _ (some 12) _ = _
                                simp only [Act.put, List.setIfInBounds_toArray, List.set_cons_zero, List.set_cons_succ, i64_w, i32_w]
                                rfl
                              exact norm_ (by simp only [putAll, Act.put, List.setIfInBounds_toArray, List.set_cons_zero, List.set_cons_succ]) (hCont (v221, v224, gb227) _ ⟨hHeld, (by (with_reducible repeat (first | apply Kd.R_alloc | apply Kd.R_drewN | apply Kd.R_drew)); exact HO212.out), (by (with_reducible repeat (first | apply Kd.R_alloc | apply Kd.R_drewN | apply Kd.R_drew)); exact Kd.R_mono HO222.out (fun _ hk => ⟨hk.2, hk.1⟩)), (by (with_reducible repeat (first | apply Kd.R_alloc | apply Kd.R_drewN | apply Kd.R_drew)); exact Kd.R_mono HO225.out (fun _ hk => ⟨hk.2, hk.1⟩)), (by (with_reducible repeat (first | refine blk_drewN ?_ _ | refine blk_drew ?_ | refine blk_alloc ?_ _)); exact BK208.out), (by (with_reducible repeat (first | refine blk_drewN ?_ _ | refine blk_drew ?_ | refine blk_alloc ?_ _)); exact BK227.out), GW227.out, GE227.out, NB202_227.out, NB227_202.out, NB208_227.out, NB227_208.out, (by repeat (first | (with_reducible first | exact HI202.out | apply IsS56.alloc | apply IsS56.drewN | apply IsS56.drew | apply IsS56.set_0 | apply IsS56.set_1 | apply IsS56.set_2 | refine IsS56.far ?_ NB202_208.out _ | refine IsS56.far ?_ NB202_227.out _) | exact HI202.out)), (by repeat (first | (with_reducible first | exact HB.out | apply below_alloc | apply pw_below_drewN | apply below_drew1 | refine below_set ?_ (IsS56.ge HI202.out) | refine below_set ?_ GE208.out | refine below_set ?_ GE227.out) | exact HB.out))⟩)
                            · skip
                              refine box_step ?hg (N := 12) ?hd (cs := #[.int .i64 0, .int .u32 0, .slice none 0 0]) (t := 29) ?hr ?_; (case hd => rfl); (case hg => rfl); (case hr => first | (go_simp; done) | (go_simp; rfl))
                              intro gb227 hg w36 hbox hb
                              have n0_ := Aside0.mk (Kd.R_below (by (with_reducible repeat (first | apply Kd.R_alloc | apply Kd.R_drewN | apply Kd.R_drew)); exact HO_209002.out) hb)
                              have n1_ := Aside0.mk (Kd.R_below (by (with_reducible repeat (first | apply Kd.R_alloc | apply Kd.R_drewN | apply Kd.R_drew)); exact HO212.out) hb)
                              have n2_ := Aside0.mk (blk_below (g := gb208) (o := .cells #[.int .i64 x209000_1, .int .u32 x209001_1, .slice Ao34 x209002_1.length co34] 29 (0, 0)) (by (with_reducible repeat (first | refine blk_drewN ?_ _ | refine blk_drew ?_ | refine blk_alloc ?_ _)); exact BK208.out) hb)
                              have n3_ := Aside0.mk (IsS56.below (by repeat (first | (with_reducible first | exact HI202.out | apply IsS56.alloc | apply IsS56.drewN | apply IsS56.drew | apply IsS56.set_0 | apply IsS56.set_1 | apply IsS56.set_2 | refine IsS56.far ?_ NB202_208.out _) | exact HI202.out)) hb)
                              have n4_ := Aside0.mk (below_step (by repeat (first | (with_reducible first | exact HB.out | apply below_alloc | apply pw_below_drewN | apply below_drew1 | refine below_set ?_ (IsS56.ge HI202.out) | refine below_set ?_ GE208.out) | exact HB.out)) hb)
                              have n5_ := Aside0.mk (hbox)
                              have n6_ := Aside0.mk ((by rw [hg]; exact (below_size (by repeat (first | (with_reducible first | exact HB.out | apply below_alloc | apply pw_below_drewN | apply below_drew1 | refine below_set ?_ (IsS56.ge HI202.out) | refine below_set ?_ GE208.out) | exact HB.out))) : w.heap.size ≤ gb227))
                              have n7_ := Aside0.mk ((by rw [hg]; exact (below_size (by repeat (first | (with_reducible first | exact HB.out | apply below_alloc | apply pw_below_drewN | apply below_drew1 | refine below_set ?_ (IsS56.ge HI202.out) | refine below_set ?_ GE208.out) | exact HB.out))) : w.heap.size ≤ gb227))
                              have n8_ := Aside0.mk ((by rw [hg]; exact Nat.ne_of_lt (blk_lt (g := gb208) (o := .cells #[.int .i64 x209000_1, .int .u32 x209001_1, .slice Ao34 x209002_1.length co34] 29 (0, 0)) (by (with_reducible repeat (first | refine blk_drewN ?_ _ | refine blk_drew ?_ | refine blk_alloc ?_ _)); exact BK208.out)) : gb208 ≠ gb227))
                              have n9_ := Aside0.mk ((by rw [hg]; exact Nat.ne_of_gt (blk_lt (g := gb208) (o := .cells #[.int .i64 x209000_1, .int .u32 x209001_1, .slice Ao34 x209002_1.length co34] 29 (0, 0)) (by (with_reducible repeat (first | refine blk_drewN ?_ _ | refine blk_drew ?_ | refine blk_alloc ?_ _)); exact BK208.out)) : gb227 ≠ gb208))
                              have n10_ := Aside0.mk ((by rw [hg]; exact Nat.ne_of_lt (IsS56.lt (show IsS56 w _ g202 t214 t215 t216 from by repeat (first | (with_reducible first | exact HI202.out | apply IsS56.alloc | apply IsS56.drewN | apply IsS56.drew | apply IsS56.set_0 | apply IsS56.set_1 | apply IsS56.set_2 | refine IsS56.far ?_ NB202_208.out _) | exact HI202.out))) : g202 ≠ gb227))
                              have n11_ := Aside0.mk ((by rw [hg]; exact Nat.ne_of_gt (IsS56.lt (show IsS56 w _ g202 t214 t215 t216 from by repeat (first | (with_reducible first | exact HI202.out | apply IsS56.alloc | apply IsS56.drewN | apply IsS56.drew | apply IsS56.set_0 | apply IsS56.set_1 | apply IsS56.set_2 | refine IsS56.far ?_ NB202_208.out _) | exact HI202.out))) : gb227 ≠ g202))
                              clear HO_209002
                              clear HO212
                              clear BK208
                              clear HI202
                              clear HB
                              have HO_209002 := n0_
                              have HO212 := n1_
                              have BK208 := n2_
                              have HI202 := n3_
                              have HB := n4_
                              have BK227 := n5_
                              have GW227 := n6_
                              have GE227 := n7_
                              have NB208_227 := n8_
                              have NB227_208 := n9_
                              have NB202_227 := n10_
                              have NB227_202 := n11_
                              clear n0_ n1_ n2_ n3_ n4_ n5_ n6_ n7_ n8_ n9_ n10_ n11_
                              clear hb hbox hg
                              refine hK.out _ _ ⟨(blk_cell BK208.out 0).trans rfl, (blk_cell BK208.out 1).trans rfl, (blk_cell BK208.out 2).trans rfl, ((HB.out.cell (World.block_lt_of_cell? w _ hw217_0)).trans hw217_0), ((HB.out.cell (World.block_lt_of_cell? w _ hw217_1)).trans hw217_1), ((HB.out.cell (World.block_lt_of_cell? w _ hw217_2)).trans hw217_2), ((HB.out.cell (World.block_lt_of_cell? w _ hw217_3)).trans hw217_3), ((HB.out.cell (World.block_lt_of_cell? w _ hw217_4)).trans hw217_4), ((HB.out.cell (World.block_lt_of_cell? w _ hw217_5)).trans hw217_5)⟩ (fun hHeld => ?_)
                              clear hK K
                              refine norm_ (a' := ?_) ?_ ?_
                              rotate_left
                              · show Act.put _ (some 12) _ = _
                                simp only [Act.put, List.setIfInBounds_toArray, List.set_cons_zero, List.set_cons_succ, i64_w, i32_w]
                                rfl
                              refine one_ (i := 5) (N := some 49) #[true, true, true, true, true, true, false, false, false, false, true, false, false, false] rfl rfl (one_of HT_.out (by kernel_rfl)) (by first | decide | exact Nat.succ_pos _ | exact ne_of_E rfl (by decide)) (fun K hK => ?_)
                              refine goes_ Try.func12 (by kernel_rfl) rfl #[.agg #[.int .i64 x209000_1, .int .u32 x209001_1, .slice Ao34 x209002_1.length co34], .agg #[.int .i64 ((rd_T37 l1 x9_1).f0), .int .u32 ((rd_T37 l1 x9_1).f1), .int .u64 ((rd_T37 l1 x9_1).f2), .int .i64 ((rd_T37 l1 x9_1).f3), .slice ((rd_T37 l1 x9_1).f4).A ((rd_T37 l1 x9_1).f4).n ((rd_T37 l1 x9_1).f4).c, .string ((rd_T37 l1 x9_1).f5)]] (by rfl) rfl rfl (by (try simp only [List.map_toArray, List.map_cons, List.map_nil]); first | done | rfl | (simp only [List.length_drop, List.length_take]; rfl)) ?_
                              with_reducible refine (consortref10_Take.calls k1 x209000_1 x209001_1 (fun k_ => some k_ = (.slice Ao34 x209002_1.length co34 : Value).ownBlock) (.slice Ao34 x209002_1.length co34) x209002_1 ((rd_T37 l1 x9_1).f0) ((rd_T37 l1 x9_1).f1) ((rd_T37 l1 x9_1).f2) ((rd_T37 l1 x9_1).f3) ((rd_T37 l1 x9_1).f4) ((rd_T37 l1 x9_1).f5) t218 t219 t220 t223 t226 w _ ?side1 ?side2 A21.out).mono ?_
                              (case side1 => repeat (first | (with_reducible first | exact HB.out | apply below_alloc | apply pw_below_drewN | apply below_drew1 | refine below_set ?_ (IsS56.ge HI202.out) | refine below_set ?_ GE208.out | refine below_set ?_ GE227.out) | exact HB.out))
                              (case side2 => exact Kd.R_tight rfl HO_209002.out)
                              rintro e w37 ⟨v221, v224, rfl, ho0, ho1, hb, hkp⟩
                              refine ⟨_, rfl, ?_⟩
                              have n0_ := Aside0.mk (blk_kept (by (with_reducible repeat (first | refine blk_drewN ?_ _ | refine blk_drew ?_ | refine blk_alloc ?_ _)); exact BK208.out) hkp (fun hs_ => (fun e_ => (Kd.R_ne HO_209002.out BK208.out (by first | decide | exact Nat.succ_pos _ | exact ne_of_E rfl (by decide))) e_) hs_))
                              have n1_ := Aside0.mk (IsS56.kept (by repeat (first | (with_reducible first | exact HI202.out | apply IsS56.alloc | apply IsS56.drewN | apply IsS56.drew | apply IsS56.set_0 | apply IsS56.set_1 | apply IsS56.set_2 | refine IsS56.far ?_ NB202_208.out _ | refine IsS56.far ?_ NB202_227.out _) | exact HI202.out)) hkp (IsS56.own_ne HI202.out HO_209002.out (by first | decide | exact Nat.succ_pos _ | exact ne_of_E rfl (by decide))))
                              have n2_ := Aside0.mk (Kd.R_mono (ok' := fun k_ => some k_ ≠ (v221 : Value).ownBlock ∧ some k_ ≠ (v224 : Value).ownBlock) (Kd.R_keptB (HO212.out) hkp (fun k_ hk_ hs_ => (hk_.2) hs_)) (fun k_ hk_ => ⟨fun e_ => Or.elim (ho0.1 k_ e_.symm).1 (fun hs_ => hk_.2.1 hs_) (fun hn_ => Nat.not_le.2 hk_.2.2 hn_), fun e_ => Or.elim (ho1.1 k_ e_.symm).1 (fun hs_ => hk_.2.1 hs_) (fun hn_ => Nat.not_le.2 hk_.2.2 hn_)⟩))
                              have n3_ := Aside0.mk (blk_kept (by (with_reducible repeat (first | refine blk_drewN ?_ _ | refine blk_drew ?_ | refine blk_alloc ?_ _)); exact BK227.out) hkp (fun hs_ => (fun e_ => (Kd.R_ne HO_209002.out BK227.out (by first | decide | exact Nat.succ_pos _ | exact ne_of_E rfl (by decide))) e_) hs_))
                              have n4_ := Aside0.mk (Kd.R_mono (ok' := fun k_ => some k_ ≠ (v224 : Value).ownBlock ∧ some k_ ≠ (v211 : Value).ownBlock) ho0 (fun k_ hk_ => ⟨hk_.2, Or.elim hk_.1 (fun hs_ => fun e_ => (((HO212.out).1 k_ e_.symm).2) hs_) (fun hn_ => (Kd.fresh' (Kd.R_lt (by (with_reducible repeat (first | apply Kd.R_alloc | apply Kd.R_drewN | apply Kd.R_drew)); exact HO212.out)) k_ hn_))⟩))
                              have n5_ := Aside0.mk (Kd.R_mono (ok' := fun k_ => some k_ ≠ (v221 : Value).ownBlock ∧ some k_ ≠ (v211 : Value).ownBlock) ho1 (fun k_ hk_ => ⟨hk_.2, Or.elim hk_.1 (fun hs_ => fun e_ => (((HO212.out).1 k_ e_.symm).2) hs_) (fun hn_ => (Kd.fresh' (Kd.R_lt (by (with_reducible repeat (first | apply Kd.R_alloc | apply Kd.R_drewN | apply Kd.R_drew)); exact HO212.out)) k_ hn_))⟩))
                              have n6_ := Aside0.mk (hb)
                              clear BK208
                              clear HI202
                              clear HO212
                              clear BK227
                              clear HB
                              clear HO_209002
                              have BK208 := n0_
                              have HI202 := n1_
                              have HO212 := n2_
                              have BK227 := n3_
                              have HO222 := n4_
                              have HO225 := n5_
                              have HB := n6_
                              clear n0_ n1_ n2_ n3_ n4_ n5_ n6_
                              (try clear hb)
                              (try clear hkp)
                              (try clear ho0)
                              (try clear ho1)
                              refine hK.out _ _ ⟨(blk_cell BK208.out 0).trans rfl, (blk_cell BK208.out 1).trans rfl, (blk_cell BK208.out 2).trans rfl, ((HB.out.cell (World.block_lt_of_cell? w _ hw217_0)).trans hw217_0), ((HB.out.cell (World.block_lt_of_cell? w _ hw217_1)).trans hw217_1), ((HB.out.cell (World.block_lt_of_cell? w _ hw217_2)).trans hw217_2), ((HB.out.cell (World.block_lt_of_cell? w _ hw217_3)).trans hw217_3), ((HB.out.cell (World.block_lt_of_cell? w _ hw217_4)).trans hw217_4), ((HB.out.cell (World.block_lt_of_cell? w _ hw217_5)).trans hw217_5)⟩ (fun hHeld => ?_)
                              clear hK K
                              refine norm_ (a' := ?_) ?_ ?_
                              rotate_left
                              · show Act.put _ (some 49) _ = _
                                simp only [Act.put, List.setIfInBounds_toArray, List.set_cons_zero, List.set_cons_succ, i64_w, i32_w]
                                rfl
                              refine pure_ (i := 6) (N := some 43) (v := ?_) (a' := ?_) #[true, true, true, true, true, true, true, false, false, false, true, false, false, false] rfl rfl (any_of HT_.out (by kernel_rfl)) (fun _ _ _ h => h) (Or.inl ⟨by rfl, ?_⟩) ?_ ?_
                              rotate_left
                              · intro w'
                                go_simp
                                with_reducible rfl
                              rotate_left
                              · simp only [Act.put, List.setIfInBounds_toArray, List.set_cons_zero, List.set_cons_succ, i64_w, i32_w]
                                rfl
                              refine pure_ (i := 7) (N := some 50) (v := ?_) (a' := ?_) #[true, true, true, true, true, true, true, true, false, false, true, false, false, false] rfl rfl (any_of HT_.out (by kernel_rfl)) (fun _ _ _ h => h) (Or.inl ⟨by rfl, ?_⟩) ?_ ?_
                              rotate_left
                              · intro w'
                                go_simp
                                with_reducible rfl
                              rotate_left
                              · simp only [Act.put, List.setIfInBounds_toArray, List.set_cons_zero, List.set_cons_succ, i64_w, i32_w]
                                rfl
                              refine pure_ (i := 8) (N := some 51) (v := ?_) (a' := ?_) #[true, true, true, true, true, true, true, true, true, false, true, false, false, false] rfl rfl (any_of HT_.out (by kernel_rfl)) (fun _ _ _ h => h) (Or.inl ⟨by rfl, ?_⟩) ?_ ?_
                              rotate_left
                              · intro w'
                                go_simp
                                with_reducible rfl
                              rotate_left
                              · simp only [Act.put, List.setIfInBounds_toArray, List.set_cons_zero, List.set_cons_succ, i64_w, i32_w]
                                rfl
                              refine pure_ (i := 9) (N := some 52) (v := ?_) (a' := ?_) #[true, true, true, true, true, true, true, true, true, true, true, false, false, false] rfl rfl (any_of HT_.out (by kernel_rfl)) (fun _ _ _ h => h) (Or.inl ⟨by rfl, ?_⟩) ?_ ?_
                              rotate_left
                              · intro w'
                                go_simp
                                with_reducible rfl
                              rotate_left
                              · simp only [Act.put, List.setIfInBounds_toArray, List.set_cons_zero, List.set_cons_succ, i64_w, i32_w]
                                rfl
                              exact norm_ (by simp only [putAll, Act.put, List.setIfInBounds_toArray, List.set_cons_zero, List.set_cons_succ]) (hCont (v221, v224, gb227) _ ⟨hHeld, (by (with_reducible repeat (first | apply Kd.R_alloc | apply Kd.R_drewN | apply Kd.R_drew)); exact HO212.out), (by (with_reducible repeat (first | apply Kd.R_alloc | apply Kd.R_drewN | apply Kd.R_drew)); exact Kd.R_mono HO222.out (fun _ hk => ⟨hk.2, hk.1⟩)), (by (with_reducible repeat (first | apply Kd.R_alloc | apply Kd.R_drewN | apply Kd.R_drew)); exact Kd.R_mono HO225.out (fun _ hk => ⟨hk.2, hk.1⟩)), (by (with_reducible repeat (first | refine blk_drewN ?_ _ | refine blk_drew ?_ | refine blk_alloc ?_ _)); exact BK208.out), (by (with_reducible repeat (first | refine blk_drewN ?_ _ | refine blk_drew ?_ | refine blk_alloc ?_ _)); exact BK227.out), GW227.out, GE227.out, NB202_227.out, NB227_202.out, NB208_227.out, NB227_208.out, (by repeat (first | (with_reducible first | exact HI202.out | apply IsS56.alloc | apply IsS56.drewN | apply IsS56.drew | apply IsS56.set_0 | apply IsS56.set_1 | apply IsS56.set_2 | refine IsS56.far ?_ NB202_208.out _ | refine IsS56.far ?_ NB202_227.out _) | exact HI202.out)), (by repeat (first | (with_reducible first | exact HB.out | apply below_alloc | apply pw_below_drewN | apply below_drew1 | refine below_set ?_ (IsS56.ge HI202.out) | refine below_set ?_ GE208.out | refine below_set ?_ GE227.out) | exact HB.out))⟩)
                          rintro ⟨v221, v224, gb227⟩ w38 ⟨hS_, h0_, h1_, h2_, h3_, h4_, h5_, h6_, h7_, h8_, h9_, h10_, h11_, h12_⟩
                          have n0_ : Aside0 (Kd.R k37 37 w38 w.heap.size (fun k_ => some k_ ≠ (v221 : Value).ownBlock ∧ some k_ ≠ (v224 : Value).ownBlock) v211 t210) := ⟨h0_⟩
                          have n1_ : Aside0 (Kd.R k37 37 w38 w.heap.size (fun k_ => some k_ ≠ (v211 : Value).ownBlock ∧ some k_ ≠ (v224 : Value).ownBlock) v221 t220) := ⟨h1_⟩
                          have n2_ : Aside0 (Kd.R k37 37 w38 w.heap.size (fun k_ => some k_ ≠ (v211 : Value).ownBlock ∧ some k_ ≠ (v221 : Value).ownBlock) v224 t223) := ⟨h2_⟩
                          have n3_ : Aside0 (w38.heap[gb208]? = some (.cells #[.int .i64 x209000_1, .int .u32 x209001_1, .slice Ao34 x209002_1.length co34] 29 (0, 0))) := ⟨h3_⟩
                          have n4_ : Aside0 (w38.heap[gb227]? = some (.cells #[.int .i64 0, .int .u32 0, .slice none 0 0] 29 (0, 0))) := ⟨h4_⟩
                          have n5_ : Aside0 (w.heap.size ≤ gb227) := ⟨h5_⟩
                          have n6_ : Aside0 (w.heap.size ≤ gb227) := ⟨h6_⟩
                          have n7_ : Aside0 (g202 ≠ gb227) := ⟨h7_⟩
                          have n8_ : Aside0 (gb227 ≠ g202) := ⟨h8_⟩
                          have n9_ : Aside0 (gb208 ≠ gb227) := ⟨h9_⟩
                          have n10_ : Aside0 (gb227 ≠ gb208) := ⟨h10_⟩
                          have n11_ : Aside0 (IsS56 w w38 g202 t214 t215 t216) := ⟨h11_⟩
                          have n12_ : Aside0 (Below w.heap.size w w38) := ⟨h12_⟩
                          clear HO_209002
                          clear HO212
                          clear BK208
                          clear HI202
                          clear HB
                          clear h0_ h1_ h2_ h3_ h4_ h5_ h6_ h7_ h8_ h9_ h10_ h11_ h12_
                          have HO212 := n0_
                          have HO222 := n1_
                          have HO225 := n2_
                          have BK208 := n3_
                          have BK227 := n4_
                          have GW227 := n5_
                          have GE227 := n6_
                          have NB202_227 := n7_
                          have NB227_202 := n8_
                          have NB208_227 := n9_
                          have NB227_208 := n10_
                          have HI202 := n11_
                          have HB := n12_
                          clear n0_ n1_ n2_ n3_ n4_ n5_ n6_ n7_ n8_ n9_ n10_ n11_ n12_
                          have hHeld : w38.cell? ⟨gb208, 0, none⟩ = some (.int .i64 x209000_1) ∧ w38.cell? ⟨gb208, 1, none⟩ = some (.int .u32 x209001_1) ∧ w38.cell? ⟨gb208, 2, none⟩ = some (.slice Ao34 x209002_1.length co34) ∧ w38.cell? (ad209.add ((x9_1).toNat * 6)) = some (.int .i64 ((rd_T37 l1 x9_1).f0)) ∧ w38.cell? ⟨(ad209.add ((x9_1).toNat * 6)).block, (ad209.add ((x9_1).toNat * 6)).off + 1, none⟩ = some (.int .u32 ((rd_T37 l1 x9_1).f1)) ∧ w38.cell? ⟨(ad209.add ((x9_1).toNat * 6)).block, (ad209.add ((x9_1).toNat * 6)).off + 2, none⟩ = some (.int .u64 ((rd_T37 l1 x9_1).f2)) ∧ w38.cell? ⟨(ad209.add ((x9_1).toNat * 6)).block, (ad209.add ((x9_1).toNat * 6)).off + 3, none⟩ = some (.int .i64 ((rd_T37 l1 x9_1).f3)) ∧ w38.cell? ⟨(ad209.add ((x9_1).toNat * 6)).block, (ad209.add ((x9_1).toNat * 6)).off + 4, none⟩ = some (.slice ((rd_T37 l1 x9_1).f4).A ((rd_T37 l1 x9_1).f4).n ((rd_T37 l1 x9_1).f4).c) ∧ w38.cell? ⟨(ad209.add ((x9_1).toNat * 6)).block, (ad209.add ((x9_1).toNat * 6)).off + 5, none⟩ = some (.string ((rd_T37 l1 x9_1).f5)) := hS_
                          obtain ⟨Ao41, co41, eo41⟩ := Kd.R_slice HO222.out
                          (first | subst eo41 | (injection eo41 with f1_ f2_ f3_; have f4_ := f1_.symm; have f5_ := f3_.symm; clear f1_ f2_ f3_; subst f4_; subst f5_))
                          refine norm_ (a' := ?_) ?_ ?_
                          rotate_left
                          · simp only [putAll, Act.put, List.setIfInBounds_toArray, List.set_cons_zero, List.set_cons_succ]
                            rfl
                          refine one_ (i := 11) (N := none) #[true, true, true, true, true, true, true, true, true, true, true, true, false, false] rfl rfl (one_of HT_.out (by kernel_rfl)) (by first | decide | exact Nat.succ_pos _ | exact ne_of_E rfl (by decide)) (fun K hK => ?_)
                          have hs39 : w38.cell? ⟨gb227, 0, none⟩ = some (.int .i64 0) := (blk_cell BK227.out 0).trans rfl
                          have hfs39 := blk_frozen BK227.out 0
                          have hns39_0 := NB208_227.out
                          have hms39_0 := NB227_208.out
                          have hs40 : w38.cell? ⟨gb227, 1, none⟩ = some (.int .u32 0) := (blk_cell BK227.out 1).trans rfl
                          have hfs40 := blk_frozen BK227.out 1
                          have hns40_0 := NB208_227.out
                          have hms40_0 := NB227_208.out
                          have hs42 : w38.cell? ⟨gb227, 2, none⟩ = some (.slice none 0 0) := (blk_cell BK227.out 2).trans rfl
                          have hfs42 := blk_frozen BK227.out 2
                          have hns42_0 := NB208_227.out
                          have hms42_0 := NB227_208.out
                          refine skip_ (w1 := ?_) (by rfl) rfl ?_ ?_
                          rotate_left
                          · go_simp
                            rfl
                          refine hK.out _ _ ⟨((cell_far (p := ⟨gb227, _, none⟩) NB208_227.out _).trans (((cell_far (p := ⟨gb227, _, none⟩) NB208_227.out _).trans (((cell_far (p := ⟨gb227, _, none⟩) NB208_227.out _).trans (hHeld.1)))))), ((cell_far (p := ⟨gb227, _, none⟩) NB208_227.out _).trans (((cell_far (p := ⟨gb227, _, none⟩) NB208_227.out _).trans (((cell_far (p := ⟨gb227, _, none⟩) NB208_227.out _).trans (hHeld.2.1)))))), ((cell_far (p := ⟨gb227, _, none⟩) NB208_227.out _).trans (((cell_far (p := ⟨gb227, _, none⟩) NB208_227.out _).trans (((cell_far (p := ⟨gb227, _, none⟩) NB208_227.out _).trans (hHeld.2.2.1)))))), ((cell_far (p := ⟨gb227, _, none⟩) (by first | exact Nat.ne_of_lt (Nat.lt_of_lt_of_le (by have := World.block_lt_of_cell? _ _ hw217_0; first | rwa [add_block] at this | exact this) GW227.out) | (rw [add_block]; exact Nat.ne_of_lt (Nat.lt_of_lt_of_le (by have := World.block_lt_of_cell? _ _ hw217_0; first | rwa [add_block] at this | exact this) GW227.out)) | (show (Addr.add _ _).block ≠ _; rw [add_block]; exact Nat.ne_of_lt (Nat.lt_of_lt_of_le (by have := World.block_lt_of_cell? _ _ hw217_0; first | rwa [add_block] at this | exact this) GW227.out)) | (dsimp only; exact Nat.ne_of_lt (Nat.lt_of_lt_of_le (by have := World.block_lt_of_cell? _ _ hw217_0; first | rwa [add_block] at this | exact this) GW227.out))) _).trans (((cell_far (p := ⟨gb227, _, none⟩) (by first | exact Nat.ne_of_lt (Nat.lt_of_lt_of_le (by have := World.block_lt_of_cell? _ _ hw217_0; first | rwa [add_block] at this | exact this) GW227.out) | (rw [add_block]; exact Nat.ne_of_lt (Nat.lt_of_lt_of_le (by have := World.block_lt_of_cell? _ _ hw217_0; first | rwa [add_block] at this | exact this) GW227.out)) | (show (Addr.add _ _).block ≠ _; rw [add_block]; exact Nat.ne_of_lt (Nat.lt_of_lt_of_le (by have := World.block_lt_of_cell? _ _ hw217_0; first | rwa [add_block] at this | exact this) GW227.out)) | (dsimp only; exact Nat.ne_of_lt (Nat.lt_of_lt_of_le (by have := World.block_lt_of_cell? _ _ hw217_0; first | rwa [add_block] at this | exact this) GW227.out))) _).trans (((cell_far (p := ⟨gb227, _, none⟩) (by first | exact Nat.ne_of_lt (Nat.lt_of_lt_of_le (by have := World.block_lt_of_cell? _ _ hw217_0; first | rwa [add_block] at this | exact this) GW227.out) | (rw [add_block]; exact Nat.ne_of_lt (Nat.lt_of_lt_of_le (by have := World.block_lt_of_cell? _ _ hw217_0; first | rwa [add_block] at this | exact this) GW227.out)) | (show (Addr.add _ _).block ≠ _; rw [add_block]; exact Nat.ne_of_lt (Nat.lt_of_lt_of_le (by have := World.block_lt_of_cell? _ _ hw217_0; first | rwa [add_block] at this | exact this) GW227.out)) | (dsimp only; exact Nat.ne_of_lt (Nat.lt_of_lt_of_le (by have := World.block_lt_of_cell? _ _ hw217_0; first | rwa [add_block] at this | exact this) GW227.out))) _).trans (hHeld.2.2.2.1)))))), ((cell_far (p := ⟨gb227, _, none⟩) (by first | exact Nat.ne_of_lt (Nat.lt_of_lt_of_le (by have := World.block_lt_of_cell? _ _ hw217_1; first | rwa [add_block] at this | exact this) GW227.out) | (rw [add_block]; exact Nat.ne_of_lt (Nat.lt_of_lt_of_le (by have := World.block_lt_of_cell? _ _ hw217_1; first | rwa [add_block] at this | exact this) GW227.out)) | (show (Addr.add _ _).block ≠ _; rw [add_block]; exact Nat.ne_of_lt (Nat.lt_of_lt_of_le (by have := World.block_lt_of_cell? _ _ hw217_1; first | rwa [add_block] at this | exact this) GW227.out)) | (dsimp only; exact Nat.ne_of_lt (Nat.lt_of_lt_of_le (by have := World.block_lt_of_cell? _ _ hw217_1; first | rwa [add_block] at this | exact this) GW227.out))) _).trans (((cell_far (p := ⟨gb227, _, none⟩) (by first | exact Nat.ne_of_lt (Nat.lt_of_lt_of_le (by have := World.block_lt_of_cell? _ _ hw217_1; first | rwa [add_block] at this | exact this) GW227.out) | (rw [add_block]; exact Nat.ne_of_lt (Nat.lt_of_lt_of_le (by have := World.block_lt_of_cell? _ _ hw217_1; first | rwa [add_block] at this | exact this) GW227.out)) | (show (Addr.add _ _).block ≠ _; rw [add_block]; exact Nat.ne_of_lt (Nat.lt_of_lt_of_le (by have := World.block_lt_of_cell? _ _ hw217_1; first | rwa [add_block] at this | exact this) GW227.out)) | (dsimp only; exact Nat.ne_of_lt (Nat.lt_of_lt_of_le (by have := World.block_lt_of_cell? _ _ hw217_1; first | rwa [add_block] at this | exact this) GW227.out))) _).trans (((cell_far (p := ⟨gb227, _, none⟩) (by first | exact Nat.ne_of_lt (Nat.lt_of_lt_of_le (by have := World.block_lt_of_cell? _ _ hw217_1; first | rwa [add_block] at this | exact this) GW227.out) | (rw [add_block]; exact Nat.ne_of_lt (Nat.lt_of_lt_of_le (by have := World.block_lt_of_cell? _ _ hw217_1; first | rwa [add_block] at this | exact this) GW227.out)) | (show (Addr.add _ _).block ≠ _; rw [add_block]; exact Nat.ne_of_lt (Nat.lt_of_lt_of_le (by have := World.block_lt_of_cell? _ _ hw217_1; first | rwa [add_block] at this | exact this) GW227.out)) | (dsimp only; exact Nat.ne_of_lt (Nat.lt_of_lt_of_le (by have := World.block_lt_of_cell? _ _ hw217_1; first | rwa [add_block] at this | exact this) GW227.out))) _).trans (hHeld.2.2.2.2.1)))))), ((cell_far (p := ⟨gb227, _, none⟩) (by first | exact Nat.ne_of_lt (Nat.lt_of_lt_of_le (by have := World.block_lt_of_cell? _ _ hw217_2; first | rwa [add_block] at this | exact this) GW227.out) | (rw [add_block]; exact Nat.ne_of_lt (Nat.lt_of_lt_of_le (by have := World.block_lt_of_cell? _ _ hw217_2; first | rwa [add_block] at this | exact this) GW227.out)) | (show (Addr.add _ _).block ≠ _; rw [add_block]; exact Nat.ne_of_lt (Nat.lt_of_lt_of_le (by have := World.block_lt_of_cell? _ _ hw217_2; first | rwa [add_block] at this | exact this) GW227.out)) | (dsimp only; exact Nat.ne_of_lt (Nat.lt_of_lt_of_le (by have := World.block_lt_of_cell? _ _ hw217_2; first | rwa [add_block] at this | exact this) GW227.out))) _).trans (((cell_far (p := ⟨gb227, _, none⟩) (by first | exact Nat.ne_of_lt (Nat.lt_of_lt_of_le (by have := World.block_lt_of_cell? _ _ hw217_2; first | rwa [add_block] at this | exact this) GW227.out) | (rw [add_block]; exact Nat.ne_of_lt (Nat.lt_of_lt_of_le (by have := World.block_lt_of_cell? _ _ hw217_2; first | rwa [add_block] at this | exact this) GW227.out)) | (show (Addr.add _ _).block ≠ _; rw [add_block]; exact Nat.ne_of_lt (Nat.lt_of_lt_of_le (by have := World.block_lt_of_cell? _ _ hw217_2; first | rwa [add_block] at this | exact this) GW227.out)) | (dsimp only; exact Nat.ne_of_lt (Nat.lt_of_lt_of_le (by have := World.block_lt_of_cell? _ _ hw217_2; first | rwa [add_block] at this | exact this) GW227.out))) _).trans (((cell_far (p := ⟨gb227, _, none⟩) (by first | exact Nat.ne_of_lt (Nat.lt_of_lt_of_le (by have := World.block_lt_of_cell? _ _ hw217_2; first | rwa [add_block] at this | exact this) GW227.out) | (rw [add_block]; exact Nat.ne_of_lt (Nat.lt_of_lt_of_le (by have := World.block_lt_of_cell? _ _ hw217_2; first | rwa [add_block] at this | exact this) GW227.out)) | (show (Addr.add _ _).block ≠ _; rw [add_block]; exact Nat.ne_of_lt (Nat.lt_of_lt_of_le (by have := World.block_lt_of_cell? _ _ hw217_2; first | rwa [add_block] at this | exact this) GW227.out)) | (dsimp only; exact Nat.ne_of_lt (Nat.lt_of_lt_of_le (by have := World.block_lt_of_cell? _ _ hw217_2; first | rwa [add_block] at this | exact this) GW227.out))) _).trans (hHeld.2.2.2.2.2.1)))))), ((cell_far (p := ⟨gb227, _, none⟩) (by first | exact Nat.ne_of_lt (Nat.lt_of_lt_of_le (by have := World.block_lt_of_cell? _ _ hw217_3; first | rwa [add_block] at this | exact this) GW227.out) | (rw [add_block]; exact Nat.ne_of_lt (Nat.lt_of_lt_of_le (by have := World.block_lt_of_cell? _ _ hw217_3; first | rwa [add_block] at this | exact this) GW227.out)) | (show (Addr.add _ _).block ≠ _; rw [add_block]; exact Nat.ne_of_lt (Nat.lt_of_lt_of_le (by have := World.block_lt_of_cell? _ _ hw217_3; first | rwa [add_block] at this | exact this) GW227.out)) | (dsimp only; exact Nat.ne_of_lt (Nat.lt_of_lt_of_le (by have := World.block_lt_of_cell? _ _ hw217_3; first | rwa [add_block] at this | exact this) GW227.out))) _).trans (((cell_far (p := ⟨gb227, _, none⟩) (by first | exact Nat.ne_of_lt (Nat.lt_of_lt_of_le (by have := World.block_lt_of_cell? _ _ hw217_3; first | rwa [add_block] at this | exact this) GW227.out) | (rw [add_block]; exact Nat.ne_of_lt (Nat.lt_of_lt_of_le (by have := World.block_lt_of_cell? _ _ hw217_3; first | rwa [add_block] at this | exact this) GW227.out)) | (show (Addr.add _ _).block ≠ _; rw [add_block]; exact Nat.ne_of_lt (Nat.lt_of_lt_of_le (by have := World.block_lt_of_cell? _ _ hw217_3; first | rwa [add_block] at this | exact this) GW227.out)) | (dsimp only; exact Nat.ne_of_lt (Nat.lt_of_lt_of_le (by have := World.block_lt_of_cell? _ _ hw217_3; first | rwa [add_block] at this | exact this) GW227.out))) _).trans (((cell_far (p := ⟨gb227, _, none⟩) (by first | exact Nat.ne_of_lt (Nat.lt_of_lt_of_le (by have := World.block_lt_of_cell? _ _ hw217_3; first | rwa [add_block] at this | exact this) GW227.out) | (rw [add_block]; exact Nat.ne_of_lt (Nat.lt_of_lt_of_le (by have := World.block_lt_of_cell? _ _ hw217_3; first | rwa [add_block] at this | exact this) GW227.out)) | (show (Addr.add _ _).block ≠ _; rw [add_block]; exact Nat.ne_of_lt (Nat.lt_of_lt_of_le (by have := World.block_lt_of_cell? _ _ hw217_3; first | rwa [add_block] at this | exact this) GW227.out)) | (dsimp only; exact Nat.ne_of_lt (Nat.lt_of_lt_of_le (by have := World.block_lt_of_cell? _ _ hw217_3; first | rwa [add_block] at this | exact this) GW227.out))) _).trans (hHeld.2.2.2.2.2.2.1)))))), ((cell_far (p := ⟨gb227, _, none⟩) (by first | exact Nat.ne_of_lt (Nat.lt_of_lt_of_le (by have := World.block_lt_of_cell? _ _ hw217_4; first | rwa [add_block] at this | exact this) GW227.out) | (rw [add_block]; exact Nat.ne_of_lt (Nat.lt_of_lt_of_le (by have := World.block_lt_of_cell? _ _ hw217_4; first | rwa [add_block] at this | exact this) GW227.out)) | (show (Addr.add _ _).block ≠ _; rw [add_block]; exact Nat.ne_of_lt (Nat.lt_of_lt_of_le (by have := World.block_lt_of_cell? _ _ hw217_4; first | rwa [add_block] at this | exact this) GW227.out)) | (dsimp only; exact Nat.ne_of_lt (Nat.lt_of_lt_of_le (by have := World.block_lt_of_cell? _ _ hw217_4; first | rwa [add_block] at this | exact this) GW227.out))) _).trans (((cell_far (p := ⟨gb227, _, none⟩) (by first | exact Nat.ne_of_lt (Nat.lt_of_lt_of_le (by have := World.block_lt_of_cell? _ _ hw217_4; first | rwa [add_block] at this | exact this) GW227.out) | (rw [add_block]; exact Nat.ne_of_lt (Nat.lt_of_lt_of_le (by have := World.block_lt_of_cell? _ _ hw217_4; first | rwa [add_block] at this | exact this) GW227.out)) | (show (Addr.add _ _).block ≠ _; rw [add_block]; exact Nat.ne_of_lt (Nat.lt_of_lt_of_le (by have := World.block_lt_of_cell? _ _ hw217_4; first | rwa [add_block] at this | exact this) GW227.out)) | (dsimp only; exact Nat.ne_of_lt (Nat.lt_of_lt_of_le (by have := World.block_lt_of_cell? _ _ hw217_4; first | rwa [add_block] at this | exact this) GW227.out))) _).trans (((cell_far (p := ⟨gb227, _, none⟩) (by first | exact Nat.ne_of_lt (Nat.lt_of_lt_of_le (by have := World.block_lt_of_cell? _ _ hw217_4; first | rwa [add_block] at this | exact this) GW227.out) | (rw [add_block]; exact Nat.ne_of_lt (Nat.lt_of_lt_of_le (by have := World.block_lt_of_cell? _ _ hw217_4; first | rwa [add_block] at this | exact this) GW227.out)) | (show (Addr.add _ _).block ≠ _; rw [add_block]; exact Nat.ne_of_lt (Nat.lt_of_lt_of_le (by have := World.block_lt_of_cell? _ _ hw217_4; first | rwa [add_block] at this | exact this) GW227.out)) | (dsimp only; exact Nat.ne_of_lt (Nat.lt_of_lt_of_le (by have := World.block_lt_of_cell? _ _ hw217_4; first | rwa [add_block] at this | exact this) GW227.out))) _).trans (hHeld.2.2.2.2.2.2.2.1)))))), ((cell_far (p := ⟨gb227, _, none⟩) (by first | exact Nat.ne_of_lt (Nat.lt_of_lt_of_le (by have := World.block_lt_of_cell? _ _ hw217_5; first | rwa [add_block] at this | exact this) GW227.out) | (rw [add_block]; exact Nat.ne_of_lt (Nat.lt_of_lt_of_le (by have := World.block_lt_of_cell? _ _ hw217_5; first | rwa [add_block] at this | exact this) GW227.out)) | (show (Addr.add _ _).block ≠ _; rw [add_block]; exact Nat.ne_of_lt (Nat.lt_of_lt_of_le (by have := World.block_lt_of_cell? _ _ hw217_5; first | rwa [add_block] at this | exact this) GW227.out)) | (dsimp only; exact Nat.ne_of_lt (Nat.lt_of_lt_of_le (by have := World.block_lt_of_cell? _ _ hw217_5; first | rwa [add_block] at this | exact this) GW227.out))) _).trans (((cell_far (p := ⟨gb227, _, none⟩) (by first | exact Nat.ne_of_lt (Nat.lt_of_lt_of_le (by have := World.block_lt_of_cell? _ _ hw217_5; first | rwa [add_block] at this | exact this) GW227.out) | (rw [add_block]; exact Nat.ne_of_lt (Nat.lt_of_lt_of_le (by have := World.block_lt_of_cell? _ _ hw217_5; first | rwa [add_block] at this | exact this) GW227.out)) | (show (Addr.add _ _).block ≠ _; rw [add_block]; exact Nat.ne_of_lt (Nat.lt_of_lt_of_le (by have := World.block_lt_of_cell? _ _ hw217_5; first | rwa [add_block] at this | exact this) GW227.out)) | (dsimp only; exact Nat.ne_of_lt (Nat.lt_of_lt_of_le (by have := World.block_lt_of_cell? _ _ hw217_5; first | rwa [add_block] at this | exact this) GW227.out))) _).trans (((cell_far (p := ⟨gb227, _, none⟩) (by first | exact Nat.ne_of_lt (Nat.lt_of_lt_of_le (by have := World.block_lt_of_cell? _ _ hw217_5; first | rwa [add_block] at this | exact this) GW227.out) | (rw [add_block]; exact Nat.ne_of_lt (Nat.lt_of_lt_of_le (by have := World.block_lt_of_cell? _ _ hw217_5; first | rwa [add_block] at this | exact this) GW227.out)) | (show (Addr.add _ _).block ≠ _; rw [add_block]; exact Nat.ne_of_lt (Nat.lt_of_lt_of_le (by have := World.block_lt_of_cell? _ _ hw217_5; first | rwa [add_block] at this | exact this) GW227.out)) | (dsimp only; exact Nat.ne_of_lt (Nat.lt_of_lt_of_le (by have := World.block_lt_of_cell? _ _ hw217_5; first | rwa [add_block] at this | exact this) GW227.out))) _).trans (hHeld.2.2.2.2.2.2.2.2))))))⟩ (fun hHeld => ?_)
                          clear hK K
                          refine pure_ (i := 12) (N := some 13) (v := ?_) (a' := ?_) #[true, true, true, true, true, true, true, true, true, true, true, true, true, false] rfl rfl (any_of HT_.out (by kernel_rfl)) (fun _ _ _ h => h) (Or.inl ⟨by rfl, ?_⟩) ?_ ?_
                          rotate_left
                          · intro w'
                            go_simp
                            with_reducible rfl
                          rotate_left
                          · simp only [Act.put, List.setIfInBounds_toArray, List.set_cons_zero, List.set_cons_succ, i64_w, i32_w]
                            rfl
                          refine pure_ (i := 13) (N := some 14) (v := ?_) (a' := ?_) #[true, true, true, true, true, true, true, true, true, true, true, true, true, true] rfl rfl (any_of HT_.out (by kernel_rfl)) (fun _ _ _ h => h) (Or.inl ⟨by rfl, ?_⟩) ?_ ?_
                          rotate_left
                          · intro w'
                            go_simp
                            with_reducible rfl
                          rotate_left
                          · simp only [Act.put, List.setIfInBounds_toArray, List.set_cons_zero, List.set_cons_succ, i64_w, i32_w]
                            rfl
                          refine done_ (done_of HT_.out (by kernel_rfl)) ?_
                          have hnb43 := NB227_208.out
                          have hnc43 := NB208_227.out
                          have hnb44 := NB227_202.out
                          have hnc44 := NB202_227.out
                          have hcz45_0 : w38.cell? ⟨gb227, 0, none⟩ = some (.int .i64 0) := (blk_cell BK227.out 0).trans rfl
                          have hcz45_1 : w38.cell? ⟨gb227, 1, none⟩ = some (.int .u32 0) := (blk_cell BK227.out 1).trans rfl
                          have hcz45_2 : w38.cell? ⟨gb227, 2, none⟩ = some (.slice none 0 0) := (blk_cell BK227.out 2).trans rfl
                          have hfz45_0 := blk_frozen BK227.out 0
                          have hfz45_1 := blk_frozen BK227.out 1
                          have hfz45_2 := blk_frozen BK227.out 2
                          have hnb46 := NB208_202.out
                          have hnc46 := NB202_208.out
                          have hcz47_0 : w38.cell? ⟨gb208, 0, none⟩ = some (.int .i64 x209000_1) := (blk_cell BK208.out 0).trans rfl
                          have hcz47_1 : w38.cell? ⟨gb208, 1, none⟩ = some (.int .u32 x209001_1) := (blk_cell BK208.out 1).trans rfl
                          have hcz47_2 : w38.cell? ⟨gb208, 2, none⟩ = some (.slice Ao34 x209002_1.length co34) := (blk_cell BK208.out 2).trans rfl
                          have hfz47_0 := blk_frozen BK208.out 0
                          have hfz47_1 := blk_frozen BK208.out 1
                          have hfz47_2 := blk_frozen BK208.out 2
                          try go_wp2_with (first | ((with_reducible refine gate_callee (f := 13) rfl ?_); refine goesL_ (some 57) rfl rfl Try.func13 (by kernel_rfl) rfl #[.pointer (some ⟨g202, 0, none⟩), .int .u32 a2] rfl (by (try simp only [List.map_toArray, List.map_cons, List.map_nil]); first | done | rfl | (simp only [List.length_drop, List.length_take]; rfl)) ?_; (with_reducible refine (stream_Lacks.calls g202 t214 t215 t216 a2 t228 t229 t230 t231 t232 w _ ?side1 ?side2 A22.out).mono ?_); (case side1 => repeat (first | (with_reducible first | exact HI202.out | apply IsS56.alloc | apply IsS56.drewN | apply IsS56.drew | apply IsS56.set_0 | apply IsS56.set_1 | apply IsS56.set_2 | refine IsS56.far ?_ NB202_208.out _ | refine IsS56.far ?_ NB202_227.out _) | exact HI202.out)); (case side2 => repeat (first | (with_reducible first | exact HB.out | apply below_alloc | apply pw_below_drewN | apply below_drew1 | refine below_set ?_ (IsS56.ge HI202.out) | refine below_set ?_ GE208.out | refine below_set ?_ GE227.out) | exact HB.out)); rintro e w48 ⟨rfl, hi, hb, hk⟩; refine ⟨_, rfl, ?_⟩; have n0_ := Aside0.mk (KeepBut.blk hk (g' := gb208) (o := .cells #[.int .i64 t218, .int .u32 t219, .slice Ao41 t220.length co41] 29 (0, 0)) (by (with_reducible repeat (first | refine blk_drewN ?_ _ | refine blk_drew ?_ | refine blk_alloc ?_ _)); refine blk_put (cs := #[.int .i64 t218, .int .u32 t219, .slice Ao34 x209002_1.length co34]) ?_ 2 _ rfl; (with_reducible repeat (first | refine blk_drewN ?_ _ | refine blk_drew ?_ | refine blk_alloc ?_ _)); refine blk_put (cs := #[.int .i64 t218, .int .u32 x209001_1, .slice Ao34 x209002_1.length co34]) ?_ 1 _ rfl; (with_reducible repeat (first | refine blk_drewN ?_ _ | refine blk_drew ?_ | refine blk_alloc ?_ _)); refine blk_put (cs := #[.int .i64 x209000_1, .int .u32 x209001_1, .slice Ao34 x209002_1.length co34]) ?_ 0 _ rfl; (with_reducible repeat (first | refine blk_drewN ?_ _ | refine blk_drew ?_ | refine blk_alloc ?_ _)); refine blk_far ?_ NB208_227.out _; (with_reducible repeat (first | refine blk_drewN ?_ _ | refine blk_drew ?_ | refine blk_alloc ?_ _)); refine blk_far ?_ NB208_227.out _; (with_reducible repeat (first | refine blk_drewN ?_ _ | refine blk_drew ?_ | refine blk_alloc ?_ _)); refine blk_far ?_ NB208_227.out _; (with_reducible repeat (first | refine blk_drewN ?_ _ | refine blk_drew ?_ | refine blk_alloc ?_ _)); exact BK208.out) NB208_202.out (by simp)); have n1_ := Aside0.mk (Kd.R_mono (Kd.R_keep (IsS56.apart (show IsS56 w _ g202 t214 t215 t216 from by repeat (first | (with_reducible first | exact HI202.out | apply IsS56.alloc | apply IsS56.drewN | apply IsS56.drew | apply IsS56.set_0 | apply IsS56.set_1 | apply IsS56.set_2 | refine IsS56.far ?_ NB202_208.out _ | refine IsS56.far ?_ NB202_227.out _) | exact HI202.out)) (by (with_reducible repeat (first | apply Kd.R_alloc | apply Kd.R_drewN | apply Kd.R_drew)); exact (Kd.R_mono (Kd.R_mono (Kd.R_far (p := ⟨gb208, 2, none⟩) (Kd.R_far (p := ⟨gb208, 1, none⟩) (Kd.R_far (p := ⟨gb208, 0, none⟩) (Kd.R_far (p := ⟨gb227, 2, none⟩) (Kd.R_far (p := ⟨gb227, 1, none⟩) (Kd.R_far (p := ⟨gb227, 0, none⟩) (Kd.R_types (Kd.R_types HO212.out BK227.out (by first | decide | exact Nat.succ_pos _ | exact ne_of_E rfl (by decide))) BK208.out (by first | decide | exact Nat.succ_pos _ | exact ne_of_E rfl (by decide))) (fun _ hk => hk.1.2) (.int .i64 t218)) (fun _ hk => hk.1.2) (.int .u32 t219)) (fun _ hk => hk.1.2) (.slice Ao41 t220.length co41)) (fun _ hk => hk.2) (.int .i64 t218)) (fun _ hk => hk.2) (.int .u32 t219)) (fun _ hk => hk.2) (.slice Ao41 t220.length co41)) (fun _ h_ => h_.1)) (fun _ h_ => h_.1))) (by first | decide | exact Nat.succ_pos _ | exact ne_of_E rfl (by decide))) hk (fun _ h => h.2)) (fun _ h => h.1)); have n2_ := Aside0.mk (Kd.R_mono (Kd.R_keep (IsS56.apart (show IsS56 w _ g202 t214 t215 t216 from by repeat (first | (with_reducible first | exact HI202.out | apply IsS56.alloc | apply IsS56.drewN | apply IsS56.drew | apply IsS56.set_0 | apply IsS56.set_1 | apply IsS56.set_2 | refine IsS56.far ?_ NB202_208.out _ | refine IsS56.far ?_ NB202_227.out _) | exact HI202.out)) (by (with_reducible repeat (first | apply Kd.R_alloc | apply Kd.R_drewN | apply Kd.R_drew)); exact (Kd.R_mono (Kd.R_mono (Kd.R_far (p := ⟨gb208, 2, none⟩) (Kd.R_far (p := ⟨gb208, 1, none⟩) (Kd.R_far (p := ⟨gb208, 0, none⟩) (Kd.R_far (p := ⟨gb227, 2, none⟩) (Kd.R_far (p := ⟨gb227, 1, none⟩) (Kd.R_far (p := ⟨gb227, 0, none⟩) (Kd.R_types (Kd.R_types HO222.out BK227.out (by first | decide | exact Nat.succ_pos _ | exact ne_of_E rfl (by decide))) BK208.out (by first | decide | exact Nat.succ_pos _ | exact ne_of_E rfl (by decide))) (fun _ hk => hk.1.2) (.int .i64 t218)) (fun _ hk => hk.1.2) (.int .u32 t219)) (fun _ hk => hk.1.2) (.slice Ao41 t220.length co41)) (fun _ hk => hk.2) (.int .i64 t218)) (fun _ hk => hk.2) (.int .u32 t219)) (fun _ hk => hk.2) (.slice Ao41 t220.length co41)) (fun _ h_ => h_.1)) (fun _ h_ => h_.1))) (by first | decide | exact Nat.succ_pos _ | exact ne_of_E rfl (by decide))) hk (fun _ h => h.2)) (fun _ h => h.1)); have n3_ := Aside0.mk (Kd.R_mono (Kd.R_keep (IsS56.apart (show IsS56 w _ g202 t214 t215 t216 from by repeat (first | (with_reducible first | exact HI202.out | apply IsS56.alloc | apply IsS56.drewN | apply IsS56.drew | apply IsS56.set_0 | apply IsS56.set_1 | apply IsS56.set_2 | refine IsS56.far ?_ NB202_208.out _ | refine IsS56.far ?_ NB202_227.out _) | exact HI202.out)) (by (with_reducible repeat (first | apply Kd.R_alloc | apply Kd.R_drewN | apply Kd.R_drew)); exact (Kd.R_mono (Kd.R_mono (Kd.R_far (p := ⟨gb208, 2, none⟩) (Kd.R_far (p := ⟨gb208, 1, none⟩) (Kd.R_far (p := ⟨gb208, 0, none⟩) (Kd.R_far (p := ⟨gb227, 2, none⟩) (Kd.R_far (p := ⟨gb227, 1, none⟩) (Kd.R_far (p := ⟨gb227, 0, none⟩) (Kd.R_types (Kd.R_types HO225.out BK227.out (by first | decide | exact Nat.succ_pos _ | exact ne_of_E rfl (by decide))) BK208.out (by first | decide | exact Nat.succ_pos _ | exact ne_of_E rfl (by decide))) (fun _ hk => hk.1.2) (.int .i64 t218)) (fun _ hk => hk.1.2) (.int .u32 t219)) (fun _ hk => hk.1.2) (.slice Ao41 t220.length co41)) (fun _ hk => hk.2) (.int .i64 t218)) (fun _ hk => hk.2) (.int .u32 t219)) (fun _ hk => hk.2) (.slice Ao41 t220.length co41)) (fun _ h_ => h_.1)) (fun _ h_ => h_.1))) (by first | decide | exact Nat.succ_pos _ | exact ne_of_E rfl (by decide))) hk (fun _ h => h.2)) (fun _ h => h.1)); have n4_ := Aside0.mk (KeepBut.blk hk (g' := gb227) (o := .cells #[.int .i64 t218, .int .u32 t219, .slice Ao41 t220.length co41] 29 (0, 0)) (by (with_reducible repeat (first | refine blk_drewN ?_ _ | refine blk_drew ?_ | refine blk_alloc ?_ _)); refine blk_far ?_ NB227_208.out _; (with_reducible repeat (first | refine blk_drewN ?_ _ | refine blk_drew ?_ | refine blk_alloc ?_ _)); refine blk_far ?_ NB227_208.out _; (with_reducible repeat (first | refine blk_drewN ?_ _ | refine blk_drew ?_ | refine blk_alloc ?_ _)); refine blk_far ?_ NB227_208.out _; (with_reducible repeat (first | refine blk_drewN ?_ _ | refine blk_drew ?_ | refine blk_alloc ?_ _)); refine blk_put (cs := #[.int .i64 t218, .int .u32 t219, .slice none 0 0]) ?_ 2 _ rfl; (with_reducible repeat (first | refine blk_drewN ?_ _ | refine blk_drew ?_ | refine blk_alloc ?_ _)); refine blk_put (cs := #[.int .i64 t218, .int .u32 0, .slice none 0 0]) ?_ 1 _ rfl; (with_reducible repeat (first | refine blk_drewN ?_ _ | refine blk_drew ?_ | refine blk_alloc ?_ _)); refine blk_put (cs := #[.int .i64 0, .int .u32 0, .slice none 0 0]) ?_ 0 _ rfl; (with_reducible repeat (first | refine blk_drewN ?_ _ | refine blk_drew ?_ | refine blk_alloc ?_ _)); exact BK227.out) NB227_202.out (by simp)); have n5_ := Aside0.mk (hb); have n6_ := Aside0.mk (hi); clear BK208; clear HO212; clear HO222; clear HO225; clear BK227; clear HB; clear HI202; have BK208 := n0_; have HO212 := n1_; have HO222 := n2_; have HO225 := n3_; have BK227 := n4_; have HB := n5_; have HI202 := n6_; clear n0_ n1_ n2_ n3_ n4_ n5_ n6_; (try clear hb); (try clear hb2); (try clear hk); (try clear hi); have hcz49_0 : w48.cell? ⟨gb208, 0, none⟩ = some (.int .i64 t218) := (blk_cell BK208.out 0).trans rfl; have hcz49_1 : w48.cell? ⟨gb208, 1, none⟩ = some (.int .u32 t219) := (blk_cell BK208.out 1).trans rfl; have hcz49_2 : w48.cell? ⟨gb208, 2, none⟩ = some (.slice Ao41 t220.length co41) := (blk_cell BK208.out 2).trans rfl; have hfz49_0 := blk_frozen BK208.out 0; have hfz49_1 := blk_frozen BK208.out 1; have hfz49_2 := blk_frozen BK208.out 2) | ((with_reducible refine gate_callee (f := 14) rfl ?_); refine goesL_ (some 63) rfl rfl Try.func14 (by kernel_rfl) rfl #[.agg #[.int .i64 t218, .int .u32 t219, .slice Ao41 t220.length co41], .int .u32 a2] rfl (by (try simp only [List.map_toArray, List.map_cons, List.map_nil]); first | done | rfl | (simp only [List.length_drop, List.length_take]; rfl)) ?_; (with_reducible refine (consortref10_Lacks.calls t218 t219 _ _ t220 a2 t233 t234 _ ?side1 ?side2 A23.out).mono ?_); (case side1 => repeat (first | exact (Kd.R_reads' HO222.out).2.2 | (with_reducible refine Kd.C_alloc ?_ _) | (with_reducible refine Kd.C_drewN ?_ _) | (with_reducible refine Kd.C_drew ?_))); (case side2 => exact (Kd.R_reads' HO222.out).2.1); rintro e w50 ⟨rfl, hb⟩; refine ⟨_, rfl, ?_⟩; have n0_ := Aside0.mk (Kd.R_below (by (with_reducible repeat (first | apply Kd.R_alloc | apply Kd.R_drewN | apply Kd.R_drew)); exact HO212.out) hb); have n1_ := Aside0.mk (Kd.R_below (by (with_reducible repeat (first | apply Kd.R_alloc | apply Kd.R_drewN | apply Kd.R_drew)); exact HO222.out) hb); have n2_ := Aside0.mk (Kd.R_below (by (with_reducible repeat (first | apply Kd.R_alloc | apply Kd.R_drewN | apply Kd.R_drew)); exact HO225.out) hb); have n3_ := Aside0.mk (blk_below (g := gb208) (o := .cells #[.int .i64 t218, .int .u32 t219, .slice Ao41 t220.length co41] 29 (0, 0)) (by (with_reducible repeat (first | refine blk_drewN ?_ _ | refine blk_drew ?_ | refine blk_alloc ?_ _)); exact BK208.out) hb); have n4_ := Aside0.mk (IsS56.below (by repeat (first | (with_reducible first | exact HI202.out | apply IsS56.alloc | apply IsS56.drewN | apply IsS56.drew | apply IsS56.set_0 | apply IsS56.set_1 | apply IsS56.set_2 | refine IsS56.far ?_ NB202_208.out _ | refine IsS56.far ?_ NB202_227.out _) | exact HI202.out)) hb); have n5_ := Aside0.mk (blk_below (g := gb227) (o := .cells #[.int .i64 t218, .int .u32 t219, .slice Ao41 t220.length co41] 29 (0, 0)) (by (with_reducible repeat (first | refine blk_drewN ?_ _ | refine blk_drew ?_ | refine blk_alloc ?_ _)); exact BK227.out) hb); have n6_ := Aside0.mk (below_step (by repeat (first | (with_reducible first | exact HB.out | apply below_alloc | apply pw_below_drewN | apply below_drew1 | refine below_set ?_ (IsS56.ge HI202.out) | refine below_set ?_ GE208.out | refine below_set ?_ GE227.out) | exact HB.out)) hb); clear HO212; clear HO222; clear HO225; clear BK208; clear HI202; clear BK227; clear HB; have HO212 := n0_; have HO222 := n1_; have HO225 := n2_; have BK208 := n3_; have HI202 := n4_; have BK227 := n5_; have HB := n6_; clear n0_ n1_ n2_ n3_ n4_ n5_ n6_; (try clear hb); (try clear hb2); (try clear hk); (try clear hi)))
                          have n0_ := Aside0.mk (Kd.R_drew HO212.out)
                          have n1_ := Aside0.mk (Kd.R_drew HO222.out)
                          have n2_ := Aside0.mk (Kd.R_drew HO225.out)
                          have n3_ := Aside0.mk (blk_drew BK208.out)
                          have n4_ := Aside0.mk (blk_drew BK227.out)
                          have n5_ := Aside0.mk (IsS56.drew HI202.out)
                          have n6_ := Aside0.mk (below_drew1 HB.out)
                          clear HO212
                          clear HO222
                          clear HO225
                          clear BK208
                          clear BK227
                          clear HI202
                          clear HB
                          have HO212 := n0_
                          have HO222 := n1_
                          have HO225 := n2_
                          have BK208 := n3_
                          have BK227 := n4_
                          have HI202 := n5_
                          have HB := n6_
                          clear n0_ n1_ n2_ n3_ n4_ n5_ n6_
                          obtain ⟨Ao52, co52, eo52⟩ := Kd.R_slice HO212.out
                          (first | subst eo52 | (injection eo52 with f1_ f2_ f3_; have f4_ := f1_.symm; have f5_ := f3_.symm; clear f1_ f2_ f3_; subst f4_; subst f5_))
                          obtain ⟨Ao53, co53, eo53⟩ := Kd.R_slice HO225.out
                          (first | subst eo53 | (injection eo53 with f1_ f2_ f3_; have f4_ := f1_.symm; have f5_ := f3_.symm; clear f1_ f2_ f3_; subst f4_; subst f5_))
                          refine start_ (n := 34) (S := fun w' => w'.cell? ⟨gb208, 0, none⟩ = some (.int .i64 t218) ∧ w'.cell? ⟨gb208, 1, none⟩ = some (.int .u32 t219) ∧ w'.cell? ⟨gb208, 2, none⟩ = some (.slice Ao41 t220.length co41)) (ds := []) #[false, false, false, false, false, false, false, false, false, false, false, false, false, false, false, false, false, false, false, false, false, false, false, false, false, false, false, false, false, false, false, false, false, false] (by kernel_rfl) rfl rfl ⟨(blk_cell BK208.out 0).trans rfl, (blk_cell BK208.out 1).trans rfl, (blk_cell BK208.out 2).trans rfl⟩ (fun hHeld => ?_); refine with_tabW consortlaw10_StreamPlays.tab14 consortlaw10_StreamPlays.bits14 (fun HT_ HW_ => ?_)
                          generalize w50.drew = w51 at HO212 HO222 HO225 BK208 BK227 HI202 HB hHeld ⊢
                          refine pure_ (i := 0) (N := some 66) (v := ?_) (a' := ?_) #[true, false, false, false, false, false, false, false, false, false, false, false, false, false, false, false, false, false, false, false, false, false, false, false, false, false, false, false, false, false, false, false, false, false] rfl rfl (any_of HT_.out (by kernel_rfl)) (fun _ _ _ h => h) (Or.inl ⟨by rfl, ?_⟩) ?_ ?_
                          rotate_left
                          · intro w'
                            go_simp
                            with_reducible rfl
                          rotate_left
                          · simp only [Act.put, List.setIfInBounds_toArray, List.set_cons_zero, List.set_cons_succ, i64_w, i32_w]
                            rfl
                          refine pure_ (i := 1) (N := some 67) (v := ?_) (a' := ?_) #[true, true, false, false, false, false, false, false, false, false, false, false, false, false, false, false, false, false, false, false, false, false, false, false, false, false, false, false, false, false, false, false, false, false] rfl rfl (any_of HT_.out (by kernel_rfl)) (fun _ _ _ h => h) (Or.inl ⟨by rfl, ?_⟩) ?_ ?_
                          rotate_left
                          · intro w'
                            go_simp
                            with_reducible rfl
                          rotate_left
                          · simp only [Act.put, List.setIfInBounds_toArray, List.set_cons_zero, List.set_cons_succ, i64_w, i32_w]
                            rfl
                          refine one_ (i := 2) (N := some 68) #[true, true, true, false, false, false, false, false, false, false, false, false, false, false, false, false, false, false, false, false, false, false, false, false, false, false, false, false, false, false, false, false, false, false] rfl rfl (one_of HT_.out (by kernel_rfl)) (by first | decide | exact Nat.succ_pos _ | exact ne_of_E rfl (by decide)) (fun K hK => ?_)
                          refine goes_ Try.func15 (by kernel_rfl) rfl #[.slice Ao52 t210.length co52, .slice Ao53 t223.length co53] (by rfl) rfl rfl (by (try simp only [List.map_toArray, List.map_cons, List.map_nil]); first | done | rfl | (simp only [List.length_drop, List.length_take]; rfl)) ?_
                          with_reducible refine (consortref03_All.calls k1 _ _ t210 _ _ t223 true _ ?side1 ?side2 ?side3 ?side4 ?sideW A24.out).mono ?_
                          case sideW => exact below_step HW.out (by repeat (first | (with_reducible first | exact HB.out | apply below_alloc | apply pw_below_drewN | apply below_drew1 | refine below_set ?_ (IsS56.ge HI202.out) | refine below_set ?_ GE208.out | refine below_set ?_ GE227.out) | exact HB.out))
                          (case side1 => repeat (first | exact (Kd.R_reads' HO212.out).2.2 | (with_reducible refine Kd.C_alloc ?_ _) | (with_reducible refine Kd.C_drewN ?_ _) | (with_reducible refine Kd.C_drew ?_)))
                          (case side2 => exact (Kd.R_reads' HO212.out).2.1)
                          (case side3 => repeat (first | exact (Kd.R_reads' HO225.out).2.2 | (with_reducible refine Kd.C_alloc ?_ _) | (with_reducible refine Kd.C_drewN ?_ _) | (with_reducible refine Kd.C_drew ?_)))
                          (case side4 => exact (Kd.R_reads' HO225.out).2.1)
                          rintro e w54 ⟨rfl, hb⟩
                          refine ⟨_, rfl, ?_⟩
                          have n0_ := Aside0.mk (Kd.R_below (by (with_reducible repeat (first | apply Kd.R_alloc | apply Kd.R_drewN | apply Kd.R_drew)); exact HO212.out) hb)
                          have n1_ := Aside0.mk (Kd.R_below (by (with_reducible repeat (first | apply Kd.R_alloc | apply Kd.R_drewN | apply Kd.R_drew)); exact HO222.out) hb)
                          have n2_ := Aside0.mk (Kd.R_below (by (with_reducible repeat (first | apply Kd.R_alloc | apply Kd.R_drewN | apply Kd.R_drew)); exact HO225.out) hb)
                          have n3_ := Aside0.mk (blk_below (g := gb208) (o := .cells #[.int .i64 t218, .int .u32 t219, .slice Ao41 t220.length co41] 29 (0, 0)) (by (with_reducible repeat (first | refine blk_drewN ?_ _ | refine blk_drew ?_ | refine blk_alloc ?_ _)); exact BK208.out) hb)
                          have n4_ := Aside0.mk (IsS56.below (by repeat (first | (with_reducible first | exact HI202.out | apply IsS56.alloc | apply IsS56.drewN | apply IsS56.drew | apply IsS56.set_0 | apply IsS56.set_1 | apply IsS56.set_2 | refine IsS56.far ?_ NB202_208.out _ | refine IsS56.far ?_ NB202_227.out _) | exact HI202.out)) hb)
                          have n5_ := Aside0.mk (blk_below (g := gb227) (o := .cells #[.int .i64 t218, .int .u32 t219, .slice Ao41 t220.length co41] 29 (0, 0)) (by (with_reducible repeat (first | refine blk_drewN ?_ _ | refine blk_drew ?_ | refine blk_alloc ?_ _)); exact BK227.out) hb)
                          have n6_ := Aside0.mk (below_step (by repeat (first | (with_reducible first | exact HB.out | apply below_alloc | apply pw_below_drewN | apply below_drew1 | refine below_set ?_ (IsS56.ge HI202.out) | refine below_set ?_ GE208.out | refine below_set ?_ GE227.out) | exact HB.out)) hb)
                          clear HO212
                          clear HO222
                          clear HO225
                          clear BK208
                          clear HI202
                          clear BK227
                          clear HB
                          have HO212 := n0_
                          have HO222 := n1_
                          have HO225 := n2_
                          have BK208 := n3_
                          have HI202 := n4_
                          have BK227 := n5_
                          have HB := n6_
                          clear n0_ n1_ n2_ n3_ n4_ n5_ n6_
                          (try clear hb)
                          (try clear hb2)
                          (try clear hk)
                          (try clear hi)
                          refine hK.out _ _ ⟨(blk_cell BK208.out 0).trans rfl, (blk_cell BK208.out 1).trans rfl, (blk_cell BK208.out 2).trans rfl⟩ (fun hHeld => ?_)
                          clear hK K
                          refine norm_ (a' := ?_) ?_ ?_
                          rotate_left
                          · show Act.put _ (some 68) _ = _
                            simp only [Act.put, List.setIfInBounds_toArray, List.set_cons_zero, List.set_cons_succ, i64_w, i32_w]
                            rfl
                          refine pure_ (i := 3) (N := some 69) (v := ?_) (a' := ?_) #[true, true, true, true, false, false, false, false, false, false, false, false, false, false, false, false, false, false, false, false, false, false, false, false, false, false, false, false, false, false, false, false, false, false] rfl rfl (any_of HT_.out (by kernel_rfl)) (fun _ _ _ h => h) (Or.inl ⟨by rfl, ?_⟩) ?_ ?_
                          rotate_left
                          · intro w'
                            go_simp
                            with_reducible rfl
                          rotate_left
                          · simp only [Act.put, List.setIfInBounds_toArray, List.set_cons_zero, List.set_cons_succ, i64_w, i32_w]
                            rfl
                          refine pure_ (i := 4) (N := some 70) (v := ?_) (a' := ?_) #[true, true, true, true, true, false, false, false, false, false, false, false, false, false, false, false, false, false, false, false, false, false, false, false, false, false, false, false, false, false, false, false, false, false] rfl rfl (any_of HT_.out (by kernel_rfl)) (fun _ _ _ h => h) (Or.inl ⟨by rfl, ?_⟩) ?_ ?_
                          rotate_left
                          · intro w'
                            go_simp
                            with_reducible rfl
                          rotate_left
                          · simp only [Act.put, List.setIfInBounds_toArray, List.set_cons_zero, List.set_cons_succ, i64_w, i32_w]
                            rfl
                          refine pure_ (i := 5) (N := some 71) (v := ?_) (a' := ?_) #[true, true, true, true, true, true, false, false, false, false, false, false, false, false, false, false, false, false, false, false, false, false, false, false, false, false, false, false, false, false, false, false, false, false] rfl rfl (any_of HT_.out (by kernel_rfl)) (fun _ _ _ h => h) (Or.inl ⟨by rfl, ?_⟩) ?_ ?_
                          rotate_left
                          · intro w'
                            go_simp
                            with_reducible rfl
                          rotate_left
                          · simp only [Act.put, List.setIfInBounds_toArray, List.set_cons_zero, List.set_cons_succ, i64_w, i32_w]
                            rfl
                          refine pure_ (i := 6) (N := some 72) (v := ?_) (a' := ?_) #[true, true, true, true, true, true, true, false, false, false, false, false, false, false, false, false, false, false, false, false, false, false, false, false, false, false, false, false, false, false, false, false, false, false] rfl rfl (any_of HT_.out (by kernel_rfl)) (fun _ _ _ h => h) (Or.inl ⟨by rfl, ?_⟩) ?_ ?_
                          rotate_left
                          · intro w'
                            go_simp
                            with_reducible rfl
                          rotate_left
                          · simp only [Act.put, List.setIfInBounds_toArray, List.set_cons_zero, List.set_cons_succ, i64_w, i32_w]
                            rfl
                          refine pure_ (i := 7) (N := some 73) (v := ?_) (a' := ?_) #[true, true, true, true, true, true, true, true, false, false, false, false, false, false, false, false, false, false, false, false, false, false, false, false, false, false, false, false, false, false, false, false, false, false] rfl rfl (any_of HT_.out (by kernel_rfl)) (fun _ _ _ h => h) (Or.inl ⟨by rfl, ?_⟩) ?_ ?_
                          rotate_left
                          · intro w'
                            go_simp
                            with_reducible rfl
                          rotate_left
                          · simp only [Act.put, List.setIfInBounds_toArray, List.set_cons_zero, List.set_cons_succ, i64_w, i32_w]
                            rfl
                          refine pure_ (i := 8) (N := some 74) (v := ?_) (a' := ?_) #[true, true, true, true, true, true, true, true, true, false, false, false, false, false, false, false, false, false, false, false, false, false, false, false, false, false, false, false, false, false, false, false, false, false] rfl rfl (any_of HT_.out (by kernel_rfl)) (fun _ _ _ h => h) (Or.inl ⟨by rfl, ?_⟩) ?_ ?_
                          rotate_left
                          · intro w'
                            go_simp
                            with_reducible rfl
                          rotate_left
                          · simp only [Act.put, List.setIfInBounds_toArray, List.set_cons_zero, List.set_cons_succ, i64_w, i32_w]
                            rfl
                          refine pure_ (i := 9) (N := some 75) (v := ?_) (a' := ?_) #[true, true, true, true, true, true, true, true, true, true, false, false, false, false, false, false, false, false, false, false, false, false, false, false, false, false, false, false, false, false, false, false, false, false] rfl rfl (any_of HT_.out (by kernel_rfl)) (fun _ _ _ h => h) (Or.inl ⟨by rfl, ?_⟩) ?_ ?_
                          rotate_left
                          · intro w'
                            go_simp
                            with_reducible rfl
                          rotate_left
                          · simp only [Act.put, List.setIfInBounds_toArray, List.set_cons_zero, List.set_cons_succ, i64_w, i32_w]
                            rfl
                          refine pure_ (i := 10) (N := some 76) (v := ?_) (a' := ?_) #[true, true, true, true, true, true, true, true, true, true, true, false, false, false, false, false, false, false, false, false, false, false, false, false, false, false, false, false, false, false, false, false, false, false] rfl rfl (any_of HT_.out (by kernel_rfl)) (fun _ _ _ h => h) (Or.inl ⟨by rfl, ?_⟩) ?_ ?_
                          rotate_left
                          · intro w'
                            go_simp
                            with_reducible rfl
                          rotate_left
                          · simp only [Act.put, List.setIfInBounds_toArray, List.set_cons_zero, List.set_cons_succ, i64_w, i32_w]
                            rfl
                          refine pure_ (i := 12) (N := some 78) (v := ?_) (a' := ?_) #[true, true, true, true, true, true, true, true, true, true, true, false, true, false, false, false, false, false, false, false, false, false, false, false, false, false, false, false, false, false, false, false, false, false] rfl rfl (any_of HT_.out (by kernel_rfl)) (fun _ _ _ h => h) (Or.inl ⟨by rfl, ?_⟩) ?_ ?_
                          rotate_left
                          · intro w'
                            go_simp
                            with_reducible rfl
                          rotate_left
                          · simp only [Act.put, List.setIfInBounds_toArray, List.set_cons_zero, List.set_cons_succ, i64_w, i32_w]
                            rfl
                          refine take_ (i := 13) (N := some 79) (v := ?_) (a' := ?_) #[true, true, true, true, true, true, true, true, true, true, true, false, true, true, false, false, false, false, false, false, false, false, false, false, false, false, false, false, false, false, false, false, false, false] rfl rfl (take_ofW HT_.out HW_.out (by kernel_rfl)) (fun _ _ _ h => h) (Or.inl ⟨by rfl, ?_⟩) hHeld ?_ ?_
                          rotate_left
                          · rintro w' ⟨s0, s1, s2⟩
                            go_simp
                            with_reducible rfl
                          rotate_left
                          · simp only [Act.put, List.setIfInBounds_toArray, List.set_cons_zero, List.set_cons_succ, i64_w, i32_w]
                            rfl
                          refine one_ (i := 11) (N := some 77) #[true, true, true, true, true, true, true, true, true, true, true, true, true, true, false, false, false, false, false, false, false, false, false, false, false, false, false, false, false, false, false, false, false, false] rfl rfl (one_of HT_.out (by kernel_rfl)) (by first | decide | exact Nat.succ_pos _ | exact ne_of_E rfl (by decide)) (fun K hK => ?_)
                          refine goes_ Try.func16 (by kernel_rfl) rfl #[.pointer (some ⟨g202, 0, none⟩)] (by rfl) rfl rfl (by (try simp only [List.map_toArray, List.map_cons, List.map_nil]); first | done | rfl | (simp only [List.length_drop, List.length_take]; rfl)) ?_
                          with_reducible refine (stream_Count.calls g202 t230 t231 t232 t236 t237 t238 t239 w _ ?side1 ?side2 A27.out).mono ?_
                          (case side1 => repeat (first | (with_reducible first | exact HI202.out | apply IsS56.alloc | apply IsS56.drewN | apply IsS56.drew | apply IsS56.set_0 | apply IsS56.set_1 | apply IsS56.set_2 | refine IsS56.far ?_ NB202_208.out _ | refine IsS56.far ?_ NB202_227.out _) | exact HI202.out))
                          (case side2 => repeat (first | (with_reducible first | exact HB.out | apply below_alloc | apply pw_below_drewN | apply below_drew1 | refine below_set ?_ (IsS56.ge HI202.out) | refine below_set ?_ GE208.out | refine below_set ?_ GE227.out) | exact HB.out))
                          rintro e w55 ⟨rfl, hi, hb, hk⟩
                          refine ⟨_, rfl, ?_⟩
                          have n0_ := Aside0.mk (KeepBut.blk hk (g' := gb208) (o := .cells #[.int .i64 t218, .int .u32 t219, .slice Ao41 t220.length co41] 29 (0, 0)) (by (with_reducible repeat (first | refine blk_drewN ?_ _ | refine blk_drew ?_ | refine blk_alloc ?_ _)); exact BK208.out) NB208_202.out (by simp))
                          have n1_ := Aside0.mk (Kd.R_mono (Kd.R_keep (IsS56.apart (show IsS56 w _ g202 t230 t231 t232 from by repeat (first | (with_reducible first | exact HI202.out | apply IsS56.alloc | apply IsS56.drewN | apply IsS56.drew | apply IsS56.set_0 | apply IsS56.set_1 | apply IsS56.set_2 | refine IsS56.far ?_ NB202_208.out _ | refine IsS56.far ?_ NB202_227.out _) | exact HI202.out)) (by (with_reducible repeat (first | apply Kd.R_alloc | apply Kd.R_drewN | apply Kd.R_drew)); exact HO212.out) (by first | decide | exact Nat.succ_pos _ | exact ne_of_E rfl (by decide))) hk (fun _ h => h.2)) (fun _ h => h.1))
                          have n2_ := Aside0.mk (Kd.R_mono (Kd.R_keep (IsS56.apart (show IsS56 w _ g202 t230 t231 t232 from by repeat (first | (with_reducible first | exact HI202.out | apply IsS56.alloc | apply IsS56.drewN | apply IsS56.drew | apply IsS56.set_0 | apply IsS56.set_1 | apply IsS56.set_2 | refine IsS56.far ?_ NB202_208.out _ | refine IsS56.far ?_ NB202_227.out _) | exact HI202.out)) (by (with_reducible repeat (first | apply Kd.R_alloc | apply Kd.R_drewN | apply Kd.R_drew)); exact HO222.out) (by first | decide | exact Nat.succ_pos _ | exact ne_of_E rfl (by decide))) hk (fun _ h => h.2)) (fun _ h => h.1))
                          have n3_ := Aside0.mk (Kd.R_mono (Kd.R_keep (IsS56.apart (show IsS56 w _ g202 t230 t231 t232 from by repeat (first | (with_reducible first | exact HI202.out | apply IsS56.alloc | apply IsS56.drewN | apply IsS56.drew | apply IsS56.set_0 | apply IsS56.set_1 | apply IsS56.set_2 | refine IsS56.far ?_ NB202_208.out _ | refine IsS56.far ?_ NB202_227.out _) | exact HI202.out)) (by (with_reducible repeat (first | apply Kd.R_alloc | apply Kd.R_drewN | apply Kd.R_drew)); exact HO225.out) (by first | decide | exact Nat.succ_pos _ | exact ne_of_E rfl (by decide))) hk (fun _ h => h.2)) (fun _ h => h.1))
                          have n4_ := Aside0.mk (KeepBut.blk hk (g' := gb227) (o := .cells #[.int .i64 t218, .int .u32 t219, .slice Ao41 t220.length co41] 29 (0, 0)) (by (with_reducible repeat (first | refine blk_drewN ?_ _ | refine blk_drew ?_ | refine blk_alloc ?_ _)); exact BK227.out) NB227_202.out (by simp))
                          have n5_ := Aside0.mk (hb)
                          have n6_ := Aside0.mk (hi)
                          clear BK208
                          clear HO212
                          clear HO222
                          clear HO225
                          clear BK227
                          clear HB
                          clear HI202
                          have BK208 := n0_
                          have HO212 := n1_
                          have HO222 := n2_
                          have HO225 := n3_
                          have BK227 := n4_
                          have HB := n5_
                          have HI202 := n6_
                          clear n0_ n1_ n2_ n3_ n4_ n5_ n6_
                          (try clear hb)
                          (try clear hb2)
                          (try clear hk)
                          (try clear hi)
                          refine hK.out _ _ ⟨(blk_cell BK208.out 0).trans rfl, (blk_cell BK208.out 1).trans rfl, (blk_cell BK208.out 2).trans rfl⟩ (fun hHeld => ?_)
                          clear hK K
                          refine norm_ (a' := ?_) ?_ ?_
                          rotate_left
                          · show Act.put _ (some 77) _ = _
                            simp only [Act.put, List.setIfInBounds_toArray, List.set_cons_zero, List.set_cons_succ, i64_w, i32_w]
                            rfl
                          refine pure_ (i := 14) (N := some 80) (v := ?_) (a' := ?_) #[true, true, true, true, true, true, true, true, true, true, true, true, true, true, true, false, false, false, false, false, false, false, false, false, false, false, false, false, false, false, false, false, false, false] rfl rfl (any_of HT_.out (by kernel_rfl)) (fun _ _ _ h => h) (Or.inl ⟨by rfl, ?_⟩) ?_ ?_
                          rotate_left
                          · intro w'
                            go_simp
                            with_reducible rfl
                          rotate_left
                          · simp only [Act.put, List.setIfInBounds_toArray, List.set_cons_zero, List.set_cons_succ, i64_w, i32_w]
                            rfl
                          refine pure_ (i := 15) (N := some 81) (v := ?_) (a' := ?_) #[true, true, true, true, true, true, true, true, true, true, true, true, true, true, true, true, false, false, false, false, false, false, false, false, false, false, false, false, false, false, false, false, false, false] rfl rfl (any_of HT_.out (by kernel_rfl)) (fun _ _ _ h => h) (Or.inl ⟨by rfl, ?_⟩) ?_ ?_
                          rotate_left
                          · intro w'
                            go_simp
                            with_reducible rfl
                          rotate_left
                          · simp only [Act.put, List.setIfInBounds_toArray, List.set_cons_zero, List.set_cons_succ, i64_w, i32_w]
                            rfl
                          refine pure_ (i := 16) (N := some 82) (v := ?_) (a' := ?_) #[true, true, true, true, true, true, true, true, true, true, true, true, true, true, true, true, true, false, false, false, false, false, false, false, false, false, false, false, false, false, false, false, false, false] rfl rfl (any_of HT_.out (by kernel_rfl)) (fun _ _ _ h => h) (Or.inl ⟨by rfl, ?_⟩) ?_ ?_
                          rotate_left
                          · intro w'
                            go_simp
                            with_reducible rfl
                          rotate_left
                          · simp only [Act.put, List.setIfInBounds_toArray, List.set_cons_zero, List.set_cons_succ, i64_w, i32_w]
                            rfl
                          refine pure_ (i := 17) (N := some 83) (v := ?_) (a' := ?_) #[true, true, true, true, true, true, true, true, true, true, true, true, true, true, true, true, true, true, false, false, false, false, false, false, false, false, false, false, false, false, false, false, false, false] rfl rfl (any_of HT_.out (by kernel_rfl)) (fun _ _ _ h => h) (Or.inl ⟨by rfl, ?_⟩) ?_ ?_
                          rotate_left
                          · intro w'
                            go_simp
                            with_reducible rfl
                          rotate_left
                          · simp only [Act.put, List.setIfInBounds_toArray, List.set_cons_zero, List.set_cons_succ, i64_w, i32_w]
                            rfl
                          refine pure_ (i := 19) (N := some 85) (v := ?_) (a' := ?_) #[true, true, true, true, true, true, true, true, true, true, true, true, true, true, true, true, true, true, false, true, false, false, false, false, false, false, false, false, false, false, false, false, false, false] rfl rfl (any_of HT_.out (by kernel_rfl)) (fun _ _ _ h => h) (Or.inl ⟨by rfl, ?_⟩) ?_ ?_
                          rotate_left
                          · intro w'
                            go_simp
                            with_reducible rfl
                          rotate_left
                          · simp only [Act.put, List.setIfInBounds_toArray, List.set_cons_zero, List.set_cons_succ, i64_w, i32_w]
                            rfl
                          refine take_ (i := 20) (N := some 86) (v := ?_) (a' := ?_) #[true, true, true, true, true, true, true, true, true, true, true, true, true, true, true, true, true, true, false, true, true, false, false, false, false, false, false, false, false, false, false, false, false, false] rfl rfl (take_ofW HT_.out HW_.out (by kernel_rfl)) (fun _ _ _ h => h) (Or.inl ⟨by rfl, ?_⟩) hHeld ?_ ?_
                          rotate_left
                          · rintro w' ⟨s0, s1, s2⟩
                            go_simp
                            with_reducible rfl
                          rotate_left
                          · simp only [Act.put, List.setIfInBounds_toArray, List.set_cons_zero, List.set_cons_succ, i64_w, i32_w]
                            rfl
                          refine pure_ (i := 21) (N := some 87) (v := ?_) (a' := ?_) #[true, true, true, true, true, true, true, true, true, true, true, true, true, true, true, true, true, true, false, true, true, true, false, false, false, false, false, false, false, false, false, false, false, false] rfl rfl (any_of HT_.out (by kernel_rfl)) (fun _ _ _ h => h) (Or.inl ⟨by rfl, ?_⟩) ?_ ?_
                          rotate_left
                          · intro w'
                            go_simp
                            with_reducible rfl
                          rotate_left
                          · simp only [Act.put, List.setIfInBounds_toArray, List.set_cons_zero, List.set_cons_succ, i64_w, i32_w]
                            rfl
                          refine one_ (i := 18) (N := some 84) #[true, true, true, true, true, true, true, true, true, true, true, true, true, true, true, true, true, true, true, true, true, true, false, false, false, false, false, false, false, false, false, false, false, false] rfl rfl (one_of HT_.out (by kernel_rfl)) (by first | decide | exact Nat.succ_pos _ | exact ne_of_E rfl (by decide)) (fun K hK => ?_)
                          refine goes_ Try.func17 (by kernel_rfl) rfl #[.pointer (some ⟨g202, 0, none⟩)] (by rfl) rfl rfl (by (try simp only [List.map_toArray, List.map_cons, List.map_nil]); first | done | rfl | (simp only [List.length_drop, List.length_take]; rfl)) ?_
                          with_reducible refine (stream_Held.calls g202 t237 t238 t239 t240 t241 t242 t243 w _ ?side1 ?side2 A29.out).mono ?_
                          (case side1 => repeat (first | (with_reducible first | exact HI202.out | apply IsS56.alloc | apply IsS56.drewN | apply IsS56.drew | apply IsS56.set_0 | apply IsS56.set_1 | apply IsS56.set_2 | refine IsS56.far ?_ NB202_208.out _ | refine IsS56.far ?_ NB202_227.out _) | exact HI202.out))
                          (case side2 => repeat (first | (with_reducible first | exact HB.out | apply below_alloc | apply pw_below_drewN | apply below_drew1 | refine below_set ?_ (IsS56.ge HI202.out) | refine below_set ?_ GE208.out | refine below_set ?_ GE227.out) | exact HB.out))
                          rintro e w56 ⟨rfl, hi, hb, hk⟩
                          refine ⟨_, rfl, ?_⟩
                          have n0_ := Aside0.mk (KeepBut.blk hk (g' := gb208) (o := .cells #[.int .i64 t218, .int .u32 t219, .slice Ao41 t220.length co41] 29 (0, 0)) (by (with_reducible repeat (first | refine blk_drewN ?_ _ | refine blk_drew ?_ | refine blk_alloc ?_ _)); exact BK208.out) NB208_202.out (by simp))
                          have n1_ := Aside0.mk (Kd.R_mono (Kd.R_keep (IsS56.apart (show IsS56 w _ g202 t237 t238 t239 from by repeat (first | (with_reducible first | exact HI202.out | apply IsS56.alloc | apply IsS56.drewN | apply IsS56.drew | apply IsS56.set_0 | apply IsS56.set_1 | apply IsS56.set_2 | refine IsS56.far ?_ NB202_208.out _ | refine IsS56.far ?_ NB202_227.out _) | exact HI202.out)) (by (with_reducible repeat (first | apply Kd.R_alloc | apply Kd.R_drewN | apply Kd.R_drew)); exact HO212.out) (by first | decide | exact Nat.succ_pos _ | exact ne_of_E rfl (by decide))) hk (fun _ h => h.2)) (fun _ h => h.1))
                          have n2_ := Aside0.mk (Kd.R_mono (Kd.R_keep (IsS56.apart (show IsS56 w _ g202 t237 t238 t239 from by repeat (first | (with_reducible first | exact HI202.out | apply IsS56.alloc | apply IsS56.drewN | apply IsS56.drew | apply IsS56.set_0 | apply IsS56.set_1 | apply IsS56.set_2 | refine IsS56.far ?_ NB202_208.out _ | refine IsS56.far ?_ NB202_227.out _) | exact HI202.out)) (by (with_reducible repeat (first | apply Kd.R_alloc | apply Kd.R_drewN | apply Kd.R_drew)); exact HO222.out) (by first | decide | exact Nat.succ_pos _ | exact ne_of_E rfl (by decide))) hk (fun _ h => h.2)) (fun _ h => h.1))
                          have n3_ := Aside0.mk (Kd.R_mono (Kd.R_keep (IsS56.apart (show IsS56 w _ g202 t237 t238 t239 from by repeat (first | (with_reducible first | exact HI202.out | apply IsS56.alloc | apply IsS56.drewN | apply IsS56.drew | apply IsS56.set_0 | apply IsS56.set_1 | apply IsS56.set_2 | refine IsS56.far ?_ NB202_208.out _ | refine IsS56.far ?_ NB202_227.out _) | exact HI202.out)) (by (with_reducible repeat (first | apply Kd.R_alloc | apply Kd.R_drewN | apply Kd.R_drew)); exact HO225.out) (by first | decide | exact Nat.succ_pos _ | exact ne_of_E rfl (by decide))) hk (fun _ h => h.2)) (fun _ h => h.1))
                          have n4_ := Aside0.mk (KeepBut.blk hk (g' := gb227) (o := .cells #[.int .i64 t218, .int .u32 t219, .slice Ao41 t220.length co41] 29 (0, 0)) (by (with_reducible repeat (first | refine blk_drewN ?_ _ | refine blk_drew ?_ | refine blk_alloc ?_ _)); exact BK227.out) NB227_202.out (by simp))
                          have n5_ := Aside0.mk (hb)
                          have n6_ := Aside0.mk (hi)
                          clear BK208
                          clear HO212
                          clear HO222
                          clear HO225
                          clear BK227
                          clear HB
                          clear HI202
                          have BK208 := n0_
                          have HO212 := n1_
                          have HO222 := n2_
                          have HO225 := n3_
                          have BK227 := n4_
                          have HB := n5_
                          have HI202 := n6_
                          clear n0_ n1_ n2_ n3_ n4_ n5_ n6_
                          (try clear hb)
                          (try clear hb2)
                          (try clear hk)
                          (try clear hi)
                          refine hK.out _ _ ⟨(blk_cell BK208.out 0).trans rfl, (blk_cell BK208.out 1).trans rfl, (blk_cell BK208.out 2).trans rfl⟩ (fun hHeld => ?_)
                          clear hK K
                          refine norm_ (a' := ?_) ?_ ?_
                          rotate_left
                          · show Act.put _ (some 84) _ = _
                            simp only [Act.put, List.setIfInBounds_toArray, List.set_cons_zero, List.set_cons_succ, i64_w, i32_w]
                            rfl
                          refine pure_ (i := 22) (N := some 88) (v := ?_) (a' := ?_) #[true, true, true, true, true, true, true, true, true, true, true, true, true, true, true, true, true, true, true, true, true, true, true, false, false, false, false, false, false, false, false, false, false, false] rfl rfl (any_of HT_.out (by kernel_rfl)) (fun _ _ _ h => h) (Or.inl ⟨by rfl, ?_⟩) ?_ ?_
                          rotate_left
                          · intro w'
                            go_simp
                            with_reducible rfl
                          rotate_left
                          · simp only [Act.put, List.setIfInBounds_toArray, List.set_cons_zero, List.set_cons_succ, i64_w, i32_w]
                            rfl
                          refine pure_ (i := 23) (N := some 89) (v := ?_) (a' := ?_) #[true, true, true, true, true, true, true, true, true, true, true, true, true, true, true, true, true, true, true, true, true, true, true, true, false, false, false, false, false, false, false, false, false, false] rfl rfl (any_of HT_.out (by kernel_rfl)) (fun _ _ _ h => h) (Or.inl ⟨by rfl, ?_⟩) ?_ ?_
                          rotate_left
                          · intro w'
                            go_simp
                            with_reducible rfl
                          rotate_left
                          · simp only [Act.put, List.setIfInBounds_toArray, List.set_cons_zero, List.set_cons_succ, i64_w, i32_w]
                            rfl
                          refine pure_ (i := 24) (N := some 90) (v := ?_) (a' := ?_) #[true, true, true, true, true, true, true, true, true, true, true, true, true, true, true, true, true, true, true, true, true, true, true, true, true, false, false, false, false, false, false, false, false, false] rfl rfl (any_of HT_.out (by kernel_rfl)) (fun _ _ _ h => h) (Or.inl ⟨by rfl, ?_⟩) ?_ ?_
                          rotate_left
                          · intro w'
                            go_simp
                            with_reducible rfl
                          rotate_left
                          · simp only [Act.put, List.setIfInBounds_toArray, List.set_cons_zero, List.set_cons_succ, i64_w, i32_w]
                            rfl
                          refine pure_ (i := 25) (N := some 91) (v := ?_) (a' := ?_) #[true, true, true, true, true, true, true, true, true, true, true, true, true, true, true, true, true, true, true, true, true, true, true, true, true, true, false, false, false, false, false, false, false, false] rfl rfl (any_of HT_.out (by kernel_rfl)) (fun _ _ _ h => h) (Or.inl ⟨by rfl, ?_⟩) ?_ ?_
                          rotate_left
                          · intro w'
                            go_simp
                            with_reducible rfl
                          rotate_left
                          · simp only [Act.put, List.setIfInBounds_toArray, List.set_cons_zero, List.set_cons_succ, i64_w, i32_w]
                            rfl
                          refine pure_ (i := 26) (N := some 92) (v := ?_) (a' := ?_) #[true, true, true, true, true, true, true, true, true, true, true, true, true, true, true, true, true, true, true, true, true, true, true, true, true, true, true, false, false, false, false, false, false, false] rfl rfl (any_of HT_.out (by kernel_rfl)) (fun _ _ _ h => h) (Or.inl ⟨by rfl, ?_⟩) ?_ ?_
                          rotate_left
                          · intro w'
                            go_simp
                            with_reducible rfl
                          rotate_left
                          · simp only [Act.put, List.setIfInBounds_toArray, List.set_cons_zero, List.set_cons_succ, i64_w, i32_w]
                            rfl
                          refine pure_ (i := 27) (N := some 93) (v := ?_) (a' := ?_) #[true, true, true, true, true, true, true, true, true, true, true, true, true, true, true, true, true, true, true, true, true, true, true, true, true, true, true, true, false, false, false, false, false, false] rfl rfl (any_of HT_.out (by kernel_rfl)) (fun _ _ _ h => h) (Or.inl ⟨by rfl, ?_⟩) ?_ ?_
                          rotate_left
                          · intro w'
                            go_simp
                            with_reducible rfl
                          rotate_left
                          · simp only [Act.put, List.setIfInBounds_toArray, List.set_cons_zero, List.set_cons_succ, i64_w, i32_w]
                            rfl
                          refine pure_ (i := 28) (N := some 94) (v := ?_) (a' := ?_) #[true, true, true, true, true, true, true, true, true, true, true, true, true, true, true, true, true, true, true, true, true, true, true, true, true, true, true, true, true, false, false, false, false, false] rfl rfl (any_of HT_.out (by kernel_rfl)) (fun _ _ _ h => h) (Or.inl ⟨by rfl, ?_⟩) ?_ ?_
                          rotate_left
                          · intro w'
                            go_simp
                            with_reducible rfl
                          rotate_left
                          · simp only [Act.put, List.setIfInBounds_toArray, List.set_cons_zero, List.set_cons_succ, i64_w, i32_w]
                            rfl
                          refine pure_ (i := 29) (N := some 95) (v := ?_) (a' := ?_) #[true, true, true, true, true, true, true, true, true, true, true, true, true, true, true, true, true, true, true, true, true, true, true, true, true, true, true, true, true, true, false, false, false, false] rfl rfl (any_of HT_.out (by kernel_rfl)) (fun _ _ _ h => h) (Or.inl ⟨by rfl, ?_⟩) ?_ ?_
                          rotate_left
                          · intro w'
                            go_simp
                            with_reducible rfl
                          rotate_left
                          · simp only [Act.put, List.setIfInBounds_toArray, List.set_cons_zero, List.set_cons_succ, i64_w, i32_w]
                            rfl
                          refine pure_ (i := 30) (N := some 96) (v := ?_) (a' := ?_) #[true, true, true, true, true, true, true, true, true, true, true, true, true, true, true, true, true, true, true, true, true, true, true, true, true, true, true, true, true, true, true, false, false, false] rfl rfl (any_of HT_.out (by kernel_rfl)) (fun _ _ _ h => h) (Or.inl ⟨by rfl, ?_⟩) ?_ ?_
                          rotate_left
                          · intro w'
                            go_simp
                            with_reducible rfl
                          rotate_left
                          · simp only [Act.put, List.setIfInBounds_toArray, List.set_cons_zero, List.set_cons_succ, i64_w, i32_w]
                            rfl
                          refine pure_ (i := 31) (N := some 97) (v := ?_) (a' := ?_) #[true, true, true, true, true, true, true, true, true, true, true, true, true, true, true, true, true, true, true, true, true, true, true, true, true, true, true, true, true, true, true, true, false, false] rfl rfl (any_of HT_.out (by kernel_rfl)) (fun _ _ _ h => h) (Or.inl ⟨by rfl, ?_⟩) ?_ ?_
                          rotate_left
                          · intro w'
                            go_simp
                            with_reducible rfl
                          rotate_left
                          · simp only [Act.put, List.setIfInBounds_toArray, List.set_cons_zero, List.set_cons_succ, i64_w, i32_w]
                            rfl
                          refine pure_ (i := 32) (N := some 98) (v := ?_) (a' := ?_) #[true, true, true, true, true, true, true, true, true, true, true, true, true, true, true, true, true, true, true, true, true, true, true, true, true, true, true, true, true, true, true, true, true, false] rfl rfl (any_of HT_.out (by kernel_rfl)) (fun _ _ _ h => h) (Or.inl ⟨by rfl, ?_⟩) ?_ ?_
                          rotate_left
                          · intro w'
                            go_simp
                            with_reducible rfl
                          rotate_left
                          · simp only [Act.put, List.setIfInBounds_toArray, List.set_cons_zero, List.set_cons_succ, i64_w, i32_w]
                            rfl
                          refine pure_ (i := 33) (N := some 99) (v := ?_) (a' := ?_) #[true, true, true, true, true, true, true, true, true, true, true, true, true, true, true, true, true, true, true, true, true, true, true, true, true, true, true, true, true, true, true, true, true, true] rfl rfl (any_of HT_.out (by kernel_rfl)) (fun _ _ _ h => h) (Or.inl ⟨by rfl, ?_⟩) ?_ ?_
                          rotate_left
                          · intro w'
                            go_simp
                            with_reducible rfl
                          rotate_left
                          · simp only [Act.put, List.setIfInBounds_toArray, List.set_cons_zero, List.set_cons_succ, i64_w, i32_w]
                            rfl
                          refine done_ (done_of HT_.out (by kernel_rfl)) ?_
                          try go_wp2
                          go_roundg k1
                          case measure => have := HK1.out; omega
                          case rel => exact ⟨(wrap64 (x9_1 + 1)), (t241), (t242), (t243), (t218), (t219), (t220), (.slice Ao41 t220.length co41), (by first | rfl | (simp; done) | (simp [*]; done)), H', ⟨by have := HK1.out; omega⟩, ⟨by (with_reducible repeat (first | apply Kd.R_alloc | apply Kd.R_drewN | apply Kd.R_drew)); exact Kd.R_mono HO222.out (fun _ hk => trivial)⟩, ⟨by (with_reducible repeat (first | refine blk_drewN ?_ _ | refine blk_drew ?_ | refine blk_alloc ?_ _)); exact BK208.out⟩, ⟨by repeat (first | (with_reducible first | exact HI202.out | apply IsS56.alloc | apply IsS56.drewN | apply IsS56.drew | apply IsS56.set_0 | apply IsS56.set_1 | apply IsS56.set_2 | refine IsS56.far ?_ NB202_208.out _ | refine IsS56.far ?_ NB202_227.out _) | exact HI202.out)⟩, ⟨by repeat (first | (with_reducible first | exact HB.out | apply below_alloc | apply pw_below_drewN | apply below_drew1 | refine below_set ?_ (IsS56.ge HI202.out) | refine below_set ?_ GE208.out | refine below_set ?_ GE227.out) | exact HB.out)⟩⟩
                      · rw [if_neg c31] at H
                        have c31b0 : (t228 == t233) = false := beq_eq_false_iff_ne.mpr c31
                        have c31b1 : (t228 != t233) = true := bne_iff_ne.mpr c31
                        exact absurd H (by simp)
                    · rw [if_neg c30] at H
                      have c30b0 : (t240 == (t220.length : Int)) = false := beq_eq_false_iff_ne.mpr c30
                      have c30b1 : (t240 != (t220.length : Int)) = true := bne_iff_ne.mpr c30
                      exact absurd H (by simp)
                  · rw [if_neg c28] at H
                    have c28b0 : (t236 == t219) = false := beq_eq_false_iff_ne.mpr c28
                    have c28b1 : (t236 != t219) = true := bne_iff_ne.mpr c28
                    exact absurd H (by simp)
                · rw [if_neg c26] at H
                  have c26b0 : (t213 == t226) = false := beq_eq_false_iff_ne.mpr c26
                  have c26b1 : (t213 != t226) = true := bne_iff_ne.mpr c26
                  exact absurd H (by simp)
              · replace c25 := Bool.eq_false_iff.mpr c25
                subst c25
                have H1 : (some false) = some true := by first | (rw [if_neg (show ¬ (false = true) by decide)] at H; done) | (rw [if_neg (show ¬ (false = true) by decide)] at H; exact H)
                clear H
                have H := H1
                clear H1
                exact absurd H (by simp)
            · rw [if_neg c19] at H
              exact absurd H (by simp)
          · rw [if_neg c18] at H
            have c18b0 : decide (x9_1 < (l1.length : Int)) = false := decide_eq_false c18
            clear c18
            clear H
            go_wp2
            go_ret
            exact ⟨by first | rfl | (simp [errW_none, errW_some] <;> rfl) | (simp [*, errW_none, errW_some] <;> rfl), by repeat (first | (with_reducible first | exact HB.out | apply below_alloc | apply pw_below_drewN | apply below_drew1 | refine below_set ?_ (IsS56.ge HI202.out) | refine below_set ?_ GE208.out) | exact HB.out)⟩
    · replace c7 := Bool.eq_false_iff.mpr c7
      subst c7
      have H1 : (some true) = some true := by first | (rw [if_neg (show ¬ (false = true) by decide)] at H; done) | (rw [if_neg (show ¬ (false = true) by decide)] at H; exact H)
      clear H
      have H := H1
      clear H1
      clear H
      go_enter Try.func3, Try.ntmps3
      go_wp2_with (first | ((with_reducible refine gate_callee (f := 7) rfl ?_); refine goesL_ (some 19) rfl rfl Try.func7 (by kernel_rfl) rfl #[] rfl (by (try simp only [List.map_toArray, List.map_cons, List.map_nil]); first | done | rfl | (simp only [List.length_drop, List.length_take]; rfl)) ?_; (with_reducible refine (consortlaw10_awake.calls  true _ A4.out).mono ?_); rintro e w57 ⟨rfl, hb⟩; refine ⟨_, rfl, ?_⟩; have n0_ := Aside0.mk (below_step (by repeat (first | (with_reducible first | exact HB.out | apply below_alloc | apply pw_below_drewN | apply below_drew1) | exact HB.out)) hb); clear HB; have HB := n0_; clear n0_; (try clear hb); (try clear hb2); (try clear hk); (try clear hi)) | ((with_reducible refine gate_callee (f := 8) rfl ?_); refine goesL_ (some 22) rfl rfl Try.func8 (by kernel_rfl) rfl #[.slice A1 l1.length c1] rfl (by (try simp only [List.map_toArray, List.map_cons, List.map_nil]); first | done | rfl | (simp only [List.length_drop, List.length_take]; rfl)) ?_; (with_reducible refine (consortlaw03_Few.calls k _ _ l1 false _ ?side1 ?side2 A6.out).mono ?_); (case side1 => repeat (first | exact (Kd.C_below HR1.out HB.out) | (with_reducible refine Kd.C_alloc ?_ _) | (with_reducible refine Kd.C_drewN ?_ _) | (with_reducible refine Kd.C_drew ?_))); (case side2 => exact HC1.out); rintro e w58 ⟨rfl, hb⟩; refine ⟨_, rfl, ?_⟩; have n0_ := Aside0.mk (below_step (by repeat (first | (with_reducible first | exact HB.out | apply below_alloc | apply pw_below_drewN | apply below_drew1) | exact HB.out)) hb); clear HB; have HB := n0_; clear n0_; (try clear hb); (try clear hb2); (try clear hk); (try clear hi)))
      go_ret
      exact ⟨by first | rfl | (simp [errW_none, errW_some] <;> rfl) | (simp [*, errW_none, errW_some] <;> rfl), by repeat (first | (with_reducible first | exact HB.out | apply below_alloc | apply pw_below_drewN | apply below_drew1) | exact HB.out)⟩
  · replace c5 := Bool.eq_false_iff.mpr c5
    subst c5
    have H1 : (some false) = some true := by first | (rw [if_neg (show ¬ (false = true) by decide)] at H; done) | (rw [if_neg (show ¬ (false = true) by decide)] at H; exact H)
    clear H
    have H := H1
    clear H1
    exact absurd H (by simp)

end Go.Proofs.Ytmedahgbmebegaa.P
