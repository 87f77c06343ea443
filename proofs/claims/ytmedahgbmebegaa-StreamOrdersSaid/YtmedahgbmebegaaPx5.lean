-- Written by our own program (wip/pr) over the kit's print.py, with contracts of our own.
import Derived.Test.YtmedahgbmebegaaPx0
import Derived.Test.YtmedahgbmebegaaPx1
import Derived.Test.YtmedahgbmebegaaHandT
namespace Go.Proofs.Ytmedahgbmebegaa.P
open Go.Proofs.YtmedahgbmebegaaOv
open Go.RowKit Go.Proofs.YtmedahgbmebegaaW.PrintWords Go.Proofs.YtmedahgbmebegaaW.PrintLast Go.Proofs.YtmedahgbmebegaaW.PrintMore
attribute [local go_sem] max2_int min2_int max_two min_two max_three min_three max_four min_four   -- for this text's walks alone
set_option linter.unusedVariables false
set_option linter.unusedSimpArgs false
set_option linter.unusedSectionVars false
variable [TheW]

/-! ### consortlaw10_StreamOrders: function 4 -/
mutual
def consortlaw10_StreamOrders.l0 : Nat → List (S37) → List (S37) → List (S37) → Int → Int → Int → (List (Int × S37)) → Option (Bool)
  | 0, _, _, _, _, _, _, _ => none
  | k + 1, x1, x6, x7, x8, x250000, x250001, x250002 => if x8 < (x1.length : Int) then (if 0 ≤ x8 then ((stream_Take.f x250000 x250001 x250002 ((rd_T37 x1 x8).f0) ((rd_T37 x1 x8).f1) ((rd_T37 x1 x8).f2) ((rd_T37 x1 x8).f3) ((rd_T37 x1 x8).f4) ((rd_T37 x1 x8).f5)).bind fun bt251 => (if bt251.2.1 = 0 then (consortlaw10_StreamOrders.j1 k x1 x6 x7 x8 bt251.1 bt251.2.1 false bt251.2.2.1 bt251.2.2.2.1 bt251.2.2.2.2) else (consortlaw10_StreamOrders.j1 k x1 x6 x7 x8 bt251.1 bt251.2.1 (decide ((bt251.1.length : Int) > 0)) bt251.2.2.1 bt251.2.2.2.1 bt251.2.2.2.2))) else (none)) else (consortlaw10_StreamOrders.l1 k x6 x7 0 x250000 x250001 x250002)
def consortlaw10_StreamOrders.j1 : Nat → List (S37) → List (S37) → List (S37) → Int → List (S37) → Int → Bool → Int → Int → (List (Int × S37)) → Option (Bool)
  | 0, _, _, _, _, _, _, _, _, _, _ => none
  | k + 1, x1, x6, x7, x8, x9, x10, x42, x250000, x250001, x250002 => if x42 = true then (some false) else (if x10 = 0 then (if 0 ≤ x8 then (if x8 < (x1.length : Int) then (if x6.length < 1954687338268 then (if x7.length + x9.length < 1954687338268 then (consortlaw10_StreamOrders.l0 k x1 (x6 ++ [(⟨(rd_T37 x1 x8).f0, (rd_T37 x1 x8).f1, (rd_T37 x1 x8).f2, (rd_T37 x1 x8).f3, (rd_T37 x1 x8).f4, (rd_T37 x1 x8).f5⟩ : S37)]) (x7 ++ x9) (wrap64 (x8 + 1)) x250000 x250001 x250002) else (none)) else (none)) else (none)) else (none)) else (if x7.length + x9.length < 1954687338268 then (consortlaw10_StreamOrders.l0 k x1 x6 (x7 ++ x9) (wrap64 (x8 + 1)) x250000 x250001 x250002) else (none)))
def consortlaw10_StreamOrders.l1 : Nat → List (S37) → List (S37) → Int → Int → Int → (List (Int × S37)) → Option (Bool)
  | 0, _, _, _, _, _, _ => none
  | k + 1, x6, x7, x11, x250000, x250001, x250002 => if x11 < (x7.length : Int) then (consortlaw10_StreamOrders.l2 k x6 x7 x11 false 0 x250000 x250001 x250002) else ((stream_Count.f x250000 x250001 x250002).bind fun bt268 => (if (wrap64 (bt268.1)) = (x7.length : Int) then ((stream_Held.f bt268.2.1 bt268.2.2.1 bt268.2.2.2).bind fun bt272 => (if (x6.length : Int) = (wrap64 ((x7.length : Int) + bt272.1)) then ((stream_Held.f bt272.2.1 bt272.2.2.1 bt272.2.2.2).bind fun bt276 => (some (decide (bt276.1 ≤ 63)))) else (some false))) else (some false)))
def consortlaw10_StreamOrders.l2 : Nat → List (S37) → List (S37) → Int → Bool → Int → Int → Int → (List (Int × S37)) → Option (Bool)
  | 0, _, _, _, _, _, _, _, _ => none
  | k + 1, x6, x7, x11, x12, x13, x250000, x250001, x250002 => if x13 < (x6.length : Int) then (if x12 = true then (consortlaw10_StreamOrders.l2 k x6 x7 x11 true (wrap64 (x13 + 1)) x250000 x250001 x250002) else (if 0 ≤ x13 then (if 0 ≤ x11 then (if x11 < (x7.length : Int) then ((ref03_Same.f k ((rd_T37 x6 x13).f0) ((rd_T37 x6 x13).f1) ((rd_T37 x6 x13).f2) ((rd_T37 x6 x13).f3) ((rd_T37 x6 x13).f4) ((rd_T37 x6 x13).f5) ((rd_T37 x7 x11).f0) ((rd_T37 x7 x11).f1) ((rd_T37 x7 x11).f2) ((rd_T37 x7 x11).f3) ((rd_T37 x7 x11).f4) ((rd_T37 x7 x11).f5)).bind fun t282 => (consortlaw10_StreamOrders.l2 k x6 x7 x11 t282 (wrap64 (x13 + 1)) x250000 x250001 x250002)) else (none)) else (none)) else (none))) else (if 0 ≤ x11 then (if x11 < (x7.length : Int) then (if ((rd_T37 x7 x11).f1) = ((wrap64 (x11 + 1)) % 4294967296) then (if x12 = true then (consortlaw10_StreamOrders.l1 k x6 x7 (wrap64 (x11 + 1)) x250000 x250001 x250002) else (some false)) else (some false)) else (none)) else (none))
end
def consortlaw10_StreamOrders.f (k : Nat) (a0 : Int) (l1 : List (S37)) : Option (Bool) := (consortlaw10_awake.f).bind fun t244 => (if t244 = true then ((consortlaw03_Few.f k l1).bind fun t245 => (if t245 = true then ((stream_New.f a0).bind fun bt246 => (consortlaw10_StreamOrders.l0 k l1 ([] : List (S37)) ([] : List (S37)) 0 bt246.1 bt246.2.1 bt246.2.2)) else (some true))) else (some false))
theorem consortlaw10_StreamOrders.mono_l : ∀ k, (∀ y0 y1 y2 y3 y4 y5 y6, LeO (consortlaw10_StreamOrders.l0 k y0 y1 y2 y3 y4 y5 y6) (consortlaw10_StreamOrders.l0 (k + 1) y0 y1 y2 y3 y4 y5 y6)) ∧ (∀ y0 y1 y2 y3 y4 y5 y6 y7 y8 y9, LeO (consortlaw10_StreamOrders.j1 k y0 y1 y2 y3 y4 y5 y6 y7 y8 y9) (consortlaw10_StreamOrders.j1 (k + 1) y0 y1 y2 y3 y4 y5 y6 y7 y8 y9)) ∧ (∀ y0 y1 y2 y3 y4 y5, LeO (consortlaw10_StreamOrders.l1 k y0 y1 y2 y3 y4 y5) (consortlaw10_StreamOrders.l1 (k + 1) y0 y1 y2 y3 y4 y5)) ∧ (∀ y0 y1 y2 y3 y4 y5 y6 y7, LeO (consortlaw10_StreamOrders.l2 k y0 y1 y2 y3 y4 y5 y6 y7) (consortlaw10_StreamOrders.l2 (k + 1) y0 y1 y2 y3 y4 y5 y6 y7))
  | 0 => ⟨fun _ _ _ _ _ _ _ r h => by simp [consortlaw10_StreamOrders.l0] at h, fun _ _ _ _ _ _ _ _ _ _ r h => by simp [consortlaw10_StreamOrders.j1] at h, fun _ _ _ _ _ _ r h => by simp [consortlaw10_StreamOrders.l1] at h, fun _ _ _ _ _ _ _ _ r h => by simp [consortlaw10_StreamOrders.l2] at h⟩
  | k + 1 => by
    obtain ⟨ih0, ih1, ih2, ih3⟩ := consortlaw10_StreamOrders.mono_l k
    refine ⟨?_, ?_, ?_, ?_⟩
    · intro y0 y1 y2 y3 y4 y5 y6
      unfold consortlaw10_StreamOrders.l0
      repeat' first
      | (with_reducible exact ih0 _ _ _ _ _ _ _)
      | (with_reducible exact ih1 _ _ _ _ _ _ _ _ _ _)
      | (with_reducible exact ih2 _ _ _ _ _ _)
      | (with_reducible exact ih3 _ _ _ _ _ _ _ _)
      | (with_reducible exact consortlaw03_Few.mono _ _)
      | (with_reducible exact ref03_Same.mono _ _ _ _ _ _ _ _ _ _ _ _ _)
      | (with_reducible exact LeO.refl _)
      | (with_reducible exact LeO.none _)
      | (with_reducible refine LeO.ite ?_ ?_)
      | (with_reducible refine LeO.bind ?_ (fun _ => ?_))
      | exact ih0 _ _ _ _ _ _ _
      | exact ih1 _ _ _ _ _ _ _ _ _ _
      | exact ih2 _ _ _ _ _ _
      | exact ih3 _ _ _ _ _ _ _ _
      | exact consortlaw03_Few.mono _ _
      | exact ref03_Same.mono _ _ _ _ _ _ _ _ _ _ _ _ _
      | exact LeO.none _
      | refine LeO.ite ?_ ?_
      | refine LeO.bind ?_ (fun _ => ?_)
    · intro y0 y1 y2 y3 y4 y5 y6 y7 y8 y9
      unfold consortlaw10_StreamOrders.j1
      repeat' first
      | (with_reducible exact ih0 _ _ _ _ _ _ _)
      | (with_reducible exact ih1 _ _ _ _ _ _ _ _ _ _)
      | (with_reducible exact ih2 _ _ _ _ _ _)
      | (with_reducible exact ih3 _ _ _ _ _ _ _ _)
      | (with_reducible exact consortlaw03_Few.mono _ _)
      | (with_reducible exact ref03_Same.mono _ _ _ _ _ _ _ _ _ _ _ _ _)
      | (with_reducible exact LeO.refl _)
      | (with_reducible exact LeO.none _)
      | (with_reducible refine LeO.ite ?_ ?_)
      | (with_reducible refine LeO.bind ?_ (fun _ => ?_))
      | exact ih0 _ _ _ _ _ _ _
      | exact ih1 _ _ _ _ _ _ _ _ _ _
      | exact ih2 _ _ _ _ _ _
      | exact ih3 _ _ _ _ _ _ _ _
      | exact consortlaw03_Few.mono _ _
      | exact ref03_Same.mono _ _ _ _ _ _ _ _ _ _ _ _ _
      | exact LeO.none _
      | refine LeO.ite ?_ ?_
      | refine LeO.bind ?_ (fun _ => ?_)
    · intro y0 y1 y2 y3 y4 y5
      unfold consortlaw10_StreamOrders.l1
      repeat' first
      | (with_reducible exact ih0 _ _ _ _ _ _ _)
      | (with_reducible exact ih1 _ _ _ _ _ _ _ _ _ _)
      | (with_reducible exact ih2 _ _ _ _ _ _)
      | (with_reducible exact ih3 _ _ _ _ _ _ _ _)
      | (with_reducible exact consortlaw03_Few.mono _ _)
      | (with_reducible exact ref03_Same.mono _ _ _ _ _ _ _ _ _ _ _ _ _)
      | (with_reducible exact LeO.refl _)
      | (with_reducible exact LeO.none _)
      | (with_reducible refine LeO.ite ?_ ?_)
      | (with_reducible refine LeO.bind ?_ (fun _ => ?_))
      | exact ih0 _ _ _ _ _ _ _
      | exact ih1 _ _ _ _ _ _ _ _ _ _
      | exact ih2 _ _ _ _ _ _
      | exact ih3 _ _ _ _ _ _ _ _
      | exact consortlaw03_Few.mono _ _
      | exact ref03_Same.mono _ _ _ _ _ _ _ _ _ _ _ _ _
      | exact LeO.none _
      | refine LeO.ite ?_ ?_
      | refine LeO.bind ?_ (fun _ => ?_)
    · intro y0 y1 y2 y3 y4 y5 y6 y7
      unfold consortlaw10_StreamOrders.l2
      repeat' first
      | (with_reducible exact ih0 _ _ _ _ _ _ _)
      | (with_reducible exact ih1 _ _ _ _ _ _ _ _ _ _)
      | (with_reducible exact ih2 _ _ _ _ _ _)
      | (with_reducible exact ih3 _ _ _ _ _ _ _ _)
      | (with_reducible exact consortlaw03_Few.mono _ _)
      | (with_reducible exact ref03_Same.mono _ _ _ _ _ _ _ _ _ _ _ _ _)
      | (with_reducible exact LeO.refl _)
      | (with_reducible exact LeO.none _)
      | (with_reducible refine LeO.ite ?_ ?_)
      | (with_reducible refine LeO.bind ?_ (fun _ => ?_))
      | exact ih0 _ _ _ _ _ _ _
      | exact ih1 _ _ _ _ _ _ _ _ _ _
      | exact ih2 _ _ _ _ _ _
      | exact ih3 _ _ _ _ _ _ _ _
      | exact consortlaw03_Few.mono _ _
      | exact ref03_Same.mono _ _ _ _ _ _ _ _ _ _ _ _ _
      | exact LeO.none _
      | refine LeO.ite ?_ ?_
      | refine LeO.bind ?_ (fun _ => ?_)
theorem consortlaw10_StreamOrders.mono : ∀ a0 a1 k, LeO (consortlaw10_StreamOrders.f k a0 a1) (consortlaw10_StreamOrders.f (k + 1) a0 a1) := by
  intro a0 a1 k
  obtain ⟨ih0, ih1, ih2, ih3⟩ := consortlaw10_StreamOrders.mono_l k
  unfold consortlaw10_StreamOrders.f
  repeat' first
      | (with_reducible exact ih0 _ _ _ _ _ _ _)
      | (with_reducible exact ih1 _ _ _ _ _ _ _ _ _ _)
      | (with_reducible exact ih2 _ _ _ _ _ _)
      | (with_reducible exact ih3 _ _ _ _ _ _ _ _)
      | (with_reducible exact consortlaw03_Few.mono _ _)
      | (with_reducible exact ref03_Same.mono _ _ _ _ _ _ _ _ _ _ _ _ _)
      | (with_reducible exact LeO.refl _)
      | (with_reducible exact LeO.none _)
      | (with_reducible refine LeO.ite ?_ ?_)
      | (with_reducible refine LeO.bind ?_ (fun _ => ?_))
      | exact ih0 _ _ _ _ _ _ _
      | exact ih1 _ _ _ _ _ _ _ _ _ _
      | exact ih2 _ _ _ _ _ _
      | exact ih3 _ _ _ _ _ _ _ _
      | exact consortlaw03_Few.mono _ _
      | exact ref03_Same.mono _ _ _ _ _ _ _ _ _ _ _ _ _
      | exact LeO.none _
      | refine LeO.ite ?_ ?_
      | refine LeO.bind ?_ (fun _ => ?_)
def consortlaw10_StreamOrders.T23 : Bool × List (List Nat × List Nat) := (true, [([], []), ([0], [0]), ([1], [1]), ([1], [1]), ([2, 3, 1], [1, 2, 3]), ([4, 1], [1, 4]), ([1], [1]), ([1], [1]), ([6, 7, 1], [1, 6, 7]), ([8, 1], [1, 8]), ([5, 9, 1, 1], [1, 5, 9]), ([1, 10], [1, 10]), ([11, 10, 0, 1, 2, 3, 4, 5, 6, 7, 8, 9, 10, 11], [0, 11])])
def consortlaw10_StreamOrders.B23 : List Nat := [0, 1, 3, 3, 15, 31, 3, 3, 195, 451, 1023, 2047, 4095]
theorem consortlaw10_StreamOrders.tab23 : rtab .any (opsOf Try.f4 23) = consortlaw10_StreamOrders.T23 := by kernel_rfl
theorem consortlaw10_StreamOrders.bits23 : waitsOk consortlaw10_StreamOrders.T23.2 consortlaw10_StreamOrders.B23 = true := by kernel_rfl
set_option maxHeartbeats 8000000 in
set_option maxRecDepth 100000 in
theorem consortlaw10_StreamOrders.calls (k : Nat) (a0 : Int) (A1 : Option Addr) (c1 : Nat) (l1 : List (S37)) (w : World) (hr1 : Kd.C k37 w A1 l1.length l1) (hc1 : l1.length ≤ c1) (hW : Below TheW.w0.heap.size TheW.w0 w) (h : consortlaw10_StreamOrders.f k a0 l1 = some true) :
    Calls Try.prog 4 #[.int .i64 a0, .slice A1 l1.length c1] w fun e w' => e = .returned (.bool true) ∧ Below w.heap.size w w' := by
  have hu37 := Try.underlying37
  have HR1 := Aside0.mk hr1
  have HC1 := Aside0.mk hc1
  clear hr1 hc1
  have HB := Aside0.mk (Below.refl w.heap.size w)
  have HW := Aside0.mk hW
  clear hW
  have H : ((consortlaw10_awake.f).bind fun t244 => (if t244 = true then ((consortlaw03_Few.f k l1).bind fun t245 => (if t245 = true then ((stream_New.f a0).bind fun bt246 => (consortlaw10_StreamOrders.l0 k l1 ([] : List (S37)) ([] : List (S37)) 0 bt246.1 bt246.2.1 bt246.2.2)) else (some true))) else (some false))) = some true := h
  clear h
  replace H := Option.bind_eq_some_iff.mp H
  obtain ⟨t244, A30, H⟩ := H
  replace H : (if t244 = true then ((consortlaw03_Few.f k l1).bind fun t245 => (if t245 = true then ((stream_New.f a0).bind fun bt246 => (consortlaw10_StreamOrders.l0 k l1 ([] : List (S37)) ([] : List (S37)) 0 bt246.1 bt246.2.1 bt246.2.2)) else (some true))) else (some false)) = some true := H
  have A3 := Aside0.mk A30
  clear A30
  by_cases c4 : t244 = true
  · subst c4
    have H1 : ((consortlaw03_Few.f k l1).bind fun t245 => (if t245 = true then ((stream_New.f a0).bind fun bt246 => (consortlaw10_StreamOrders.l0 k l1 ([] : List (S37)) ([] : List (S37)) 0 bt246.1 bt246.2.1 bt246.2.2)) else (some true))) = some true := by first | (rw [if_pos rfl] at H; done) | (rw [if_pos rfl] at H; exact H)
    clear H
    have H := H1
    clear H1
    replace H := Option.bind_eq_some_iff.mp H
    obtain ⟨t245, A50, H⟩ := H
    replace H : (if t245 = true then ((stream_New.f a0).bind fun bt246 => (consortlaw10_StreamOrders.l0 k l1 ([] : List (S37)) ([] : List (S37)) 0 bt246.1 bt246.2.1 bt246.2.2)) else (some true)) = some true := H
    have A5 := Aside0.mk A50
    clear A50
    by_cases c6 : t245 = true
    · subst c6
      have H1 : ((stream_New.f a0).bind fun bt246 => (consortlaw10_StreamOrders.l0 k l1 ([] : List (S37)) ([] : List (S37)) 0 bt246.1 bt246.2.1 bt246.2.2)) = some true := by first | (rw [if_pos rfl] at H; done) | (rw [if_pos rfl] at H; exact H)
      clear H
      have H := H1
      clear H1
      replace H := Option.bind_eq_some_iff.mp H
      obtain ⟨⟨t246, t247, t248⟩, A70, H⟩ := H
      replace H : (consortlaw10_StreamOrders.l0 k l1 ([] : List (S37)) ([] : List (S37)) 0 t246 t247 t248) = some true := H
      have A7 := Aside0.mk A70
      clear A70
      have H' := Aside0.mk H
      clear H
      go_enter Try.func4, Try.ntmps4
      go_wp2_with (first | ((with_reducible refine gate_callee (f := 7) rfl ?_); refine goesL_ (some 14) rfl rfl Try.func7 (by kernel_rfl) rfl #[] rfl (by (try simp only [List.map_toArray, List.map_cons, List.map_nil]); first | done | rfl | (simp only [List.length_drop, List.length_take]; rfl)) ?_; (with_reducible refine (consortlaw10_awake.calls  true _ A3.out).mono ?_); rintro e w8 ⟨rfl, hb⟩; refine ⟨_, rfl, ?_⟩; have n0_ := Aside0.mk (below_step (by repeat (first | (with_reducible first | exact HB.out | apply below_alloc | apply pw_below_drewN | apply below_drew1) | exact HB.out)) hb); clear HB; have HB := n0_; clear n0_; (try clear hb); (try clear hb2); (try clear hk); (try clear hi)) | ((with_reducible refine gate_callee (f := 8) rfl ?_); refine goesL_ (some 17) rfl rfl Try.func8 (by kernel_rfl) rfl #[.slice A1 l1.length c1] rfl (by (try simp only [List.map_toArray, List.map_cons, List.map_nil]); first | done | rfl | (simp only [List.length_drop, List.length_take]; rfl)) ?_; (with_reducible refine (consortlaw03_Few.calls k _ _ l1 true _ ?side1 ?side2 A5.out).mono ?_); (case side1 => repeat (first | exact (Kd.C_below HR1.out HB.out) | (with_reducible refine Kd.C_alloc ?_ _) | (with_reducible refine Kd.C_drewN ?_ _) | (with_reducible refine Kd.C_drew ?_))); (case side2 => exact HC1.out); rintro e w9 ⟨rfl, hb⟩; refine ⟨_, rfl, ?_⟩; have n0_ := Aside0.mk (below_step (by repeat (first | (with_reducible first | exact HB.out | apply below_alloc | apply pw_below_drewN | apply below_drew1) | exact HB.out)) hb); clear HB; have HB := n0_; clear n0_; (try clear hb); (try clear hb2); (try clear hk); (try clear hi)) | ((with_reducible refine gate_callee (f := 9) rfl ?_); refine goesL_ (some 20) rfl rfl Try.func9 (by kernel_rfl) rfl #[.int .i64 a0] rfl (by (try simp only [List.map_toArray, List.map_cons, List.map_nil]); first | done | rfl | (simp only [List.length_drop, List.length_take]; rfl)) ?_; (with_reducible refine (stream_New.calls a0 t246 t247 t248 w _ ?side1 A7.out).mono ?_); (case side1 => repeat (first | (with_reducible first | exact HB.out | apply below_alloc | apply pw_below_drewN | apply below_drew1) | exact HB.out)); rintro e w10 ⟨g249, rfl, hi, hb, hb2⟩; refine ⟨_, rfl, ?_⟩; have n0_ := Aside0.mk (hb); have n1_ := Aside0.mk (hi); clear HB; have HB := n0_; have HI249 := n1_; clear n0_ n1_; (try clear hb); (try clear hb2); (try clear hk); (try clear hi)))
      go_loopg [6, 7, 8] k (fun kq v6 v7 v8 w' => ∃ (x6_1 : List (S37)) (x7_1 : List (S37)) (x8_1 : Int) (x250000_1 : Int) (x250001_1 : Int) (x250002_1 : (List (Int × S37))), v8 = .int .i64 x8_1 ∧ Aside0 (consortlaw10_StreamOrders.l0 kq l1 x6_1 x7_1 x8_1 x250000_1 x250001_1 x250002_1 = some true) ∧ Aside0 (kq ≤ k) ∧ Aside0 (Kd.R k37 37 w' w.heap.size (fun k_ => some k_ ≠ (v7 : Value).ownBlock) v6 x6_1) ∧ Aside0 (Kd.R k37 37 w' w.heap.size (fun k_ => some k_ ≠ (v6 : Value).ownBlock) v7 x7_1) ∧ Aside0 (IsS56 w w' g249 x250000_1 x250001_1 x250002_1) ∧ Aside0 (Below w.heap.size w w'))
      case atStart => exact ⟨(([] : List (S37))), (([] : List (S37))), (0), (t246), (t247), (t248), (by first | rfl | (simp; done) | (simp [*]; done)), H', ⟨Nat.le_refl _⟩, ⟨by first | exact Kd.R_nil _ _ _ _ _ | exact Kd.N_nil _ _ _ _ _ | exact Kd.V_nil _ _ _ _ _ | exact Kd.Q_nil _ _ _ _ _ | exact Kd.S_nil _ _ _ _ _⟩, ⟨by first | exact Kd.R_nil _ _ _ _ _ | exact Kd.N_nil _ _ _ _ _ | exact Kd.V_nil _ _ _ _ _ | exact Kd.Q_nil _ _ _ _ _ | exact Kd.S_nil _ _ _ _ _⟩, ⟨by repeat (first | (with_reducible first | exact HI249.out | apply IsS56.alloc | apply IsS56.drewN | apply IsS56.drew | apply IsS56.set_0 | apply IsS56.set_1 | apply IsS56.set_2) | exact HI249.out)⟩, ⟨by repeat (first | (with_reducible first | exact HB.out | apply below_alloc | apply pw_below_drewN | apply below_drew1 | refine below_set ?_ (IsS56.ge HI249.out)) | exact HB.out)⟩⟩
      case round =>
        clear H'
        try clear c1
        try clear p2
        try clear c4
        try clear c6
        try clear c7
        try clear c8
        try clear c9
        obtain ⟨x6_1, x7_1, x8_1, x250000_1, x250001_1, x250002_1, rfl, HA, HK1, HO_6, HO_7, HI249, HB⟩ := hrel
        cases gk with
        | zero => exact absurd HA.out (by simp [consortlaw10_StreamOrders.l0])
        | succ k1 =>
          have H := HA.out
          clear HA
          simp only [consortlaw10_StreamOrders.l0] at H
          by_cases c11 : x8_1 < (l1.length : Int)
          · rw [if_pos c11] at H
            have c11b0 : decide (x8_1 < (l1.length : Int)) = true := decide_eq_true c11
            clear c11
            by_cases c12 : 0 ≤ x8_1
            · rw [if_pos c12] at H
              have c12b0 : decide (0 ≤ x8_1) = true := decide_eq_true c12
              clear c12
              replace H := Option.bind_eq_some_iff.mp H
              obtain ⟨⟨t251, t254, t255, t256, t257⟩, A130, H⟩ := H
              replace H : (if t254 = 0 then (consortlaw10_StreamOrders.j1 k1 l1 x6_1 x7_1 x8_1 t251 t254 false t255 t256 t257) else (consortlaw10_StreamOrders.j1 k1 l1 x6_1 x7_1 x8_1 t251 t254 (decide ((t251.length : Int) > 0)) t255 t256 t257)) = some true := H
              have A13 := Aside0.mk A130
              clear A130
              have HC14 := Aside0.mk H
              clear H
              have p250 : 0 ≤ (x8_1 : Int) := of_decide_eq_true (by first | (with_reducible assumption) | assumption)
              have q250 : x8_1 < (l1.length : Int) := of_decide_eq_true (by first | (with_reducible assumption) | assumption)
              obtain ⟨ad250, e250, hx250_0, hx250_1, hx250_2, hx250_3, hx250_4, hx250_5⟩ := at_T37 HR1.out x8_1 p250 q250
              cases e250
              replace hx250_0 := (HB.out.cell (World.block_lt_of_cell? w _ hx250_0)).trans hx250_0
              replace hx250_1 := (HB.out.cell (World.block_lt_of_cell? w _ hx250_1)).trans hx250_1
              replace hx250_2 := (HB.out.cell (World.block_lt_of_cell? w _ hx250_2)).trans hx250_2
              replace hx250_3 := (HB.out.cell (World.block_lt_of_cell? w _ hx250_3)).trans hx250_3
              replace hx250_4 := (HB.out.cell (World.block_lt_of_cell? w _ hx250_4)).trans hx250_4
              replace hx250_5 := (HB.out.cell (World.block_lt_of_cell? w _ hx250_5)).trans hx250_5
              replace p250 := eq_true p250
              replace q250 := eq_true q250
              go_upto_region 11 with (first | ((with_reducible refine gate_callee (f := 11) rfl ?_); refine goesL_ (some 33) rfl rfl Try.func11 (by kernel_rfl) rfl #[.pointer (some ⟨g249, 0, none⟩), .agg #[.int .i64 ((rd_T37 l1 x8_1).f0), .int .u32 ((rd_T37 l1 x8_1).f1), .int .u64 ((rd_T37 l1 x8_1).f2), .int .i64 ((rd_T37 l1 x8_1).f3), .slice ((rd_T37 l1 x8_1).f4).A ((rd_T37 l1 x8_1).f4).n ((rd_T37 l1 x8_1).f4).c, .string ((rd_T37 l1 x8_1).f5)]] rfl (by (try simp only [List.map_toArray, List.map_cons, List.map_nil]); first | done | rfl | (simp only [List.length_drop, List.length_take]; rfl)) ?_; (with_reducible refine (stream_Take.calls g249 x250000_1 x250001_1 x250002_1 ((rd_T37 l1 x8_1).f0) ((rd_T37 l1 x8_1).f1) ((rd_T37 l1 x8_1).f2) ((rd_T37 l1 x8_1).f3) ((rd_T37 l1 x8_1).f4) ((rd_T37 l1 x8_1).f5) t251 t254 t255 t256 t257 w _ ?side1 ?side2 A13.out).mono ?_); (case side1 => repeat (first | (with_reducible first | exact HI249.out | apply IsS56.alloc | apply IsS56.drewN | apply IsS56.drew | apply IsS56.set_0 | apply IsS56.set_1 | apply IsS56.set_2) | exact HI249.out)); (case side2 => repeat (first | (with_reducible first | exact HB.out | apply below_alloc | apply pw_below_drewN | apply below_drew1 | refine below_set ?_ (IsS56.ge HI249.out)) | exact HB.out)); rintro e w15 ⟨v252, rfl, ho0, hi, hb, hk⟩; refine ⟨_, rfl, ?_⟩; have n0_ := Aside0.mk (Kd.R_mono (Kd.R_told (Kd.R_oldK (IsS56.apart (show IsS56 w _ g249 x250000_1 x250001_1 x250002_1 from by repeat (first | (with_reducible first | exact HI249.out | apply IsS56.alloc | apply IsS56.drewN | apply IsS56.drew | apply IsS56.set_0 | apply IsS56.set_1 | apply IsS56.set_2) | exact HI249.out)) (by (with_reducible repeat (first | apply Kd.R_alloc | apply Kd.R_drewN | apply Kd.R_drew)); exact HO_6.out) (by first | decide | exact Nat.succ_pos _ | exact ne_of_E rfl (by decide))) hk) (Kd.R_base ho0)) (fun _ h_ => h_.1)); have n1_ := Aside0.mk (Kd.R_mono (Kd.R_told (Kd.R_oldK (IsS56.apart (show IsS56 w _ g249 x250000_1 x250001_1 x250002_1 from by repeat (first | (with_reducible first | exact HI249.out | apply IsS56.alloc | apply IsS56.drewN | apply IsS56.drew | apply IsS56.set_0 | apply IsS56.set_1 | apply IsS56.set_2) | exact HI249.out)) (by (with_reducible repeat (first | apply Kd.R_alloc | apply Kd.R_drewN | apply Kd.R_drew)); exact HO_7.out) (by first | decide | exact Nat.succ_pos _ | exact ne_of_E rfl (by decide))) hk) (Kd.R_base ho0)) (fun _ h_ => h_.1)); have n2_ := Aside0.mk (Kd.R_lower (Kd.R_new' (Kd.R_new' ho0 (Kd.R_lt (by (with_reducible repeat (first | apply Kd.R_alloc | apply Kd.R_drewN | apply Kd.R_drew)); exact HO_6.out))) (Kd.R_lt (by (with_reducible repeat (first | apply Kd.R_alloc | apply Kd.R_drewN | apply Kd.R_drew)); exact HO_7.out))) (below_size (by repeat (first | (with_reducible first | exact HB.out | apply below_alloc | apply pw_below_drewN | apply below_drew1 | refine below_set ?_ (IsS56.ge HI249.out)) | exact HB.out)))); have n3_ := Aside0.mk (hb); have n4_ := Aside0.mk (hi); clear HO_6; clear HO_7; clear HB; clear HI249; have HO_6 := n0_; have HO_7 := n1_; have HO253 := n2_; have HB := n3_; have HI249 := n4_; clear n0_ n1_ n2_ n3_ n4_; (try clear hb); (try clear hb2); (try clear hk); (try clear hi); (try clear ho0)))
              (try simp only [Act.put, List.setIfInBounds_toArray, List.set_cons_zero, List.set_cons_succ])
              go_cut [42] (fun v42 wc => ∃ (kq : Nat) (x42_13 : Bool), v42 = .bool x42_13 ∧ Aside0 (consortlaw10_StreamOrders.j1 kq l1 x6_1 x7_1 x8_1 t251 t254 x42_13 t255 t256 t257 = some true) ∧ Aside0 (kq ≤ k1) ∧ Aside0 (Kd.R k37 37 wc w.heap.size (fun k_ => some k_ ≠ (u7 : Value).ownBlock ∧ some k_ ≠ (v252 : Value).ownBlock) u6 x6_1) ∧ Aside0 (Kd.R k37 37 wc w.heap.size (fun k_ => some k_ ≠ (u6 : Value).ownBlock ∧ some k_ ≠ (v252 : Value).ownBlock) u7 x7_1) ∧ Aside0 (Kd.R k37 37 wc w.heap.size (fun k_ => some k_ ≠ (u6 : Value).ownBlock ∧ some k_ ≠ (u7 : Value).ownBlock) v252 t251) ∧ Aside0 (IsS56 w wc g249 t255 t256 t257) ∧ Aside0 (Below w.heap.size w wc))
              case first =>
                have H := HC14.out
                clear HC14
                by_cases c16 : t254 = 0
                · rw [if_pos c16] at H
                  have c16b0 : (t254 == 0) = true := beq_iff_eq.mpr c16
                  have c16b1 : (t254 != 0) = false := bne_eq_false_iff_eq.mpr c16
                  clear c16
                  (first | rw [c16b0] | (simp only [i64_w, i32_w]; rw [c16b0]) | skip)
                  have H' := Aside0.mk H
                  clear H
                  go_wp2
                  go_meet
                  case rel => exact ⟨_, (false), (by first | rfl | (simp; done) | (simp [*]; done)), H', ⟨by have := HK1.out; first | omega | exact Nat.le_refl _⟩, ⟨by (with_reducible repeat (first | apply Kd.R_alloc | apply Kd.R_drewN | apply Kd.R_drew)); exact HO_6.out⟩, ⟨by (with_reducible repeat (first | apply Kd.R_alloc | apply Kd.R_drewN | apply Kd.R_drew)); exact HO_7.out⟩, ⟨by (with_reducible repeat (first | apply Kd.R_alloc | apply Kd.R_drewN | apply Kd.R_drew)); exact Kd.R_mono HO253.out (fun _ hk => ⟨hk.1.2, hk.2⟩)⟩, ⟨by repeat (first | (with_reducible first | exact HI249.out | apply IsS56.alloc | apply IsS56.drewN | apply IsS56.drew | apply IsS56.set_0 | apply IsS56.set_1 | apply IsS56.set_2) | exact HI249.out)⟩, ⟨by repeat (first | (with_reducible first | exact HB.out | apply below_alloc | apply pw_below_drewN | apply below_drew1 | refine below_set ?_ (IsS56.ge HI249.out)) | exact HB.out)⟩⟩
                · rw [if_neg c16] at H
                  have c16b0 : (t254 == 0) = false := beq_eq_false_iff_ne.mpr c16
                  have c16b1 : (t254 != 0) = true := bne_iff_ne.mpr c16
                  (first | rw [c16b0] | (simp only [i64_w, i32_w]; rw [c16b0]) | skip)
                  have H' := Aside0.mk H
                  clear H
                  obtain ⟨Ao17, co17, eo17⟩ := Kd.R_slice HO253.out
                  subst eo17
                  go_wp2
                  go_meet
                  case rel => exact ⟨_, (decide ((t251.length : Int) > 0)), (by first | rfl | (simp; done) | (simp [*]; done)), H', ⟨by have := HK1.out; first | omega | exact Nat.le_refl _⟩, ⟨by (with_reducible repeat (first | apply Kd.R_alloc | apply Kd.R_drewN | apply Kd.R_drew)); exact HO_6.out⟩, ⟨by (with_reducible repeat (first | apply Kd.R_alloc | apply Kd.R_drewN | apply Kd.R_drew)); exact HO_7.out⟩, ⟨by (with_reducible repeat (first | apply Kd.R_alloc | apply Kd.R_drewN | apply Kd.R_drew)); exact Kd.R_mono HO253.out (fun _ hk => ⟨hk.1.2, hk.2⟩)⟩, ⟨by repeat (first | (with_reducible first | exact HI249.out | apply IsS56.alloc | apply IsS56.drewN | apply IsS56.drew | apply IsS56.set_0 | apply IsS56.set_1 | apply IsS56.set_2) | exact HI249.out)⟩, ⟨by repeat (first | (with_reducible first | exact HB.out | apply below_alloc | apply pw_below_drewN | apply below_drew1 | refine below_set ?_ (IsS56.ge HI249.out)) | exact HB.out)⟩⟩
              case rest =>
                clear HC14
                try clear c1
                try clear p2
                try clear q2
                try clear hx2
                try clear c4
                try clear c6
                try clear c7
                try clear c8
                try clear c9
                try clear c11
                try clear c11b0
                try clear c12
                try clear c12b0
                try clear c16
                try clear c16b0
                try clear c16b1
                try clear hx250_0
                try clear hx250_1
                try clear hx250_2
                try clear hx250_3
                try clear hx250_4
                try clear hx250_5
                try clear p2
                try clear p250
                try clear q250
                obtain ⟨kq, x42_13, rfl, HA, HJ13, HO_6, HO_7, HO_9, HI249, HB⟩ := hcut
                cases kq with
                | zero => exact absurd HA.out (by simp [consortlaw10_StreamOrders.j1])
                | succ kj13 =>
                  have H := HA.out
                  clear HA
                  simp only [consortlaw10_StreamOrders.j1] at H
                  by_cases c18 : x42_13 = true
                  · subst c18
                    have H1 : (some false) = some true := by first | (rw [if_pos rfl] at H; done) | (rw [if_pos rfl] at H; exact H)
                    clear H
                    have H := H1
                    clear H1
                    exact absurd H (by simp)
                  · replace c18 := Bool.eq_false_iff.mpr c18
                    subst c18
                    have H1 : (if t254 = 0 then (if 0 ≤ x8_1 then (if x8_1 < (l1.length : Int) then (if x6_1.length < 1954687338268 then (if x7_1.length + t251.length < 1954687338268 then (consortlaw10_StreamOrders.l0 kj13 l1 (x6_1 ++ [(⟨(rd_T37 l1 x8_1).f0, (rd_T37 l1 x8_1).f1, (rd_T37 l1 x8_1).f2, (rd_T37 l1 x8_1).f3, (rd_T37 l1 x8_1).f4, (rd_T37 l1 x8_1).f5⟩ : S37)]) (x7_1 ++ t251) (wrap64 (x8_1 + 1)) t255 t256 t257) else (none)) else (none)) else (none)) else (none)) else (if x7_1.length + t251.length < 1954687338268 then (consortlaw10_StreamOrders.l0 kj13 l1 x6_1 (x7_1 ++ t251) (wrap64 (x8_1 + 1)) t255 t256 t257) else (none))) = some true := by first | (rw [if_neg (show ¬ (false = true) by decide)] at H; done) | (rw [if_neg (show ¬ (false = true) by decide)] at H; exact H)
                    clear H
                    have H := H1
                    clear H1
                    by_cases c19 : t254 = 0
                    · rw [if_pos c19] at H
                      have c19b0 : (t254 == 0) = true := beq_iff_eq.mpr c19
                      have c19b1 : (t254 != 0) = false := bne_eq_false_iff_eq.mpr c19
                      clear c19
                      by_cases c20 : 0 ≤ x8_1
                      · rw [if_pos c20] at H
                        have c20b0 : decide (0 ≤ x8_1) = true := decide_eq_true c20
                        clear c20
                        by_cases c21 : x8_1 < (l1.length : Int)
                        · rw [if_pos c21] at H
                          have c21b0 : decide (x8_1 < (l1.length : Int)) = true := decide_eq_true c21
                          clear c21
                          by_cases c22 : x6_1.length < 1954687338268
                          · rw [if_pos c22] at H
                            have LMc22 := Aside0.mk c22
                            clear c22
                            obtain ⟨y259, hy259⟩ : ∃ y_ : List (S37), y_ = (x6_1 ++ [(⟨(rd_T37 l1 x8_1).f0, (rd_T37 l1 x8_1).f1, (rd_T37 l1 x8_1).f2, (rd_T37 l1 x8_1).f3, (rd_T37 l1 x8_1).f4, (rd_T37 l1 x8_1).f5⟩ : S37)]) := ⟨_, rfl⟩
                            replace H : (if x7_1.length + t251.length < 1954687338268 then (consortlaw10_StreamOrders.l0 kj13 l1 y259 (x7_1 ++ t251) (wrap64 (x8_1 + 1)) t255 t256 t257) else (none)) = some true := by first | (rw [hy259]; with_reducible exact H) | (have H2_ := (Option.bind_some _ _).symm.trans H; rw [hy259]; with_reducible exact H2_) | (have H2_ := (Option.bind_some _ _).symm.trans H; with_reducible exact H2_) | with_reducible exact H | (rw [hy259]; exact H) | exact H
                            have Ny259 := Aside0.mk hy259
                            clear hy259
                            by_cases c23 : x7_1.length + t251.length < 1954687338268
                            · rw [if_pos c23] at H
                              have LMc23 := Aside0.mk c23
                              clear c23
                              obtain ⟨y262, hy262⟩ : ∃ y_ : List (S37), y_ = (x7_1 ++ t251) := ⟨_, rfl⟩
                              replace H : (consortlaw10_StreamOrders.l0 kj13 l1 y259 y262 (wrap64 (x8_1 + 1)) t255 t256 t257) = some true := by first | (rw [hy262]; with_reducible exact H) | (have H2_ := (Option.bind_some _ _).symm.trans H; rw [hy262]; with_reducible exact H2_) | (have H2_ := (Option.bind_some _ _).symm.trans H; with_reducible exact H2_) | with_reducible exact H | (rw [hy262]; exact H) | exact H
                              have Ny262 := Aside0.mk hy262
                              clear hy262
                              have H' := Aside0.mk H
                              clear H
                              have p258 : 0 ≤ (x8_1 : Int) := of_decide_eq_true (by first | (with_reducible assumption) | assumption)
                              have q258 : x8_1 < (l1.length : Int) := of_decide_eq_true (by first | (with_reducible assumption) | assumption)
                              obtain ⟨ad258, e258, hx258_0, hx258_1, hx258_2, hx258_3, hx258_4, hx258_5⟩ := at_T37 HR1.out x8_1 p258 q258
                              obtain rfl : ad250 = ad258 := (by injection e258)
                              replace hx258_0 := (HB.out.cell (World.block_lt_of_cell? w _ hx258_0)).trans hx258_0
                              replace hx258_1 := (HB.out.cell (World.block_lt_of_cell? w _ hx258_1)).trans hx258_1
                              replace hx258_2 := (HB.out.cell (World.block_lt_of_cell? w _ hx258_2)).trans hx258_2
                              replace hx258_3 := (HB.out.cell (World.block_lt_of_cell? w _ hx258_3)).trans hx258_3
                              replace hx258_4 := (HB.out.cell (World.block_lt_of_cell? w _ hx258_4)).trans hx258_4
                              replace hx258_5 := (HB.out.cell (World.block_lt_of_cell? w _ hx258_5)).trans hx258_5
                              replace p258 := eq_true p258
                              replace q258 := eq_true q258
                              go_wp2_with (first | ((with_reducible refine gate_builtin (b := .append) (xs := #[.tmp 45, .tmp 50]) rfl ?_); (try (refine gate_guard (by rfl) ?_; dsimp only)); at_builtin; refine Kd.R_append k37 (w0 := w) w.heap.size rfl (.tmp 45) (.tmp 50) 22 37 (.agg #[(.int .i64 0), (.int .u32 0), (.int .u64 0), (.int .i64 0), (.slice none 0 0), (.string ⟨#[]⟩)]) 72 rfl Try.underlying22 info37 rfl (by first | decide | exact Nat.succ_pos _ | exact ne_of_E rfl (by decide)) (by omega) u6 x6_1 (⟨(rd_T37 l1 x8_1).f0, (rd_T37 l1 x8_1).f1, (rd_T37 l1 x8_1).f2, (rd_T37 l1 x8_1).f3, (rd_T37 l1 x8_1).f4, (rd_T37 l1 x8_1).f5⟩ : S37) [.int .i64 ((rd_T37 l1 x8_1).f0), .int .u32 ((rd_T37 l1 x8_1).f1), .int .u64 ((rd_T37 l1 x8_1).f2), .int .i64 ((rd_T37 l1 x8_1).f3), .slice ((rd_T37 l1 x8_1).f4).A ((rd_T37 l1 x8_1).f4).n ((rd_T37 l1 x8_1).f4).c, .string ((rd_T37 l1 x8_1).f5)] (fun k_ => some k_ ≠ (u7 : Value).ownBlock ∧ some k_ ≠ (v252 : Value).ownBlock) (fun _ => False) rfl rfl ?aP (fun _ hk => hk.elim) ?aF ?aO ?aB ?aS ?aL ?_; (case aP => exact k37_mkM _ _ _ (⟨(rd_T37 l1 x8_1).f0, (rd_T37 l1 x8_1).f1, (rd_T37 l1 x8_1).f2, (rd_T37 l1 x8_1).f3, (rd_T37 l1 x8_1).f4, (rd_T37 l1 x8_1).f5⟩ : S37)); (case aB => exact (by repeat (first | (with_reducible first | exact HB.out | apply below_alloc | apply pw_below_drewN | apply below_drew1 | refine below_set ?_ (IsS56.ge HI249.out)) | exact HB.out))); (case aF => exact (fun k_ hk => ⟨Kd.fresh' (Kd.R_lt (by (with_reducible repeat (first | apply Kd.R_alloc | apply Kd.R_drewN | apply Kd.R_drew)); exact HO_7.out)) k_ hk, Kd.fresh' (Kd.R_lt (by (with_reducible repeat (first | apply Kd.R_alloc | apply Kd.R_drewN | apply Kd.R_drew)); exact HO_9.out)) k_ hk⟩)); (case aO => exact (by (with_reducible repeat (first | apply Kd.R_alloc | apply Kd.R_drewN | apply Kd.R_drew)); exact HO_6.out)); (case aS => exact (below_size (by repeat (first | (with_reducible first | exact HB.out | apply below_alloc | apply pw_below_drewN | apply below_drew1 | refine below_set ?_ (IsS56.ge HI249.out)) | exact HB.out)))); (case aL => have := LMc22.out; omega); intro v260 w24 ho hb hg hat; rw [← Ny259.out] at ho; have n0_ := Aside0.mk (Kd.R_after (ok := (fun k_ => some k_ ≠ (v252 : Value).ownBlock)) (by (with_reducible repeat (first | apply Kd.R_alloc | apply Kd.R_drewN | apply Kd.R_drew)); exact Kd.R_mono HO_7.out (fun _ hk => ⟨hk.2, hk.1⟩)) hg hat); have n1_ := Aside0.mk (Kd.R_after (ok := (fun k_ => some k_ ≠ (u7 : Value).ownBlock)) (by (with_reducible repeat (first | apply Kd.R_alloc | apply Kd.R_drewN | apply Kd.R_drew)); exact Kd.R_mono HO_9.out (fun _ hk => ⟨hk.2, hk.1⟩)) hg hat); have n2_ := Aside0.mk (IsS56.grown (by repeat (first | (with_reducible first | exact HI249.out | apply IsS56.alloc | apply IsS56.drewN | apply IsS56.drew | apply IsS56.set_0 | apply IsS56.set_1 | apply IsS56.set_2) | exact HI249.out)) hg (IsS56.own_ne HI249.out HO_6.out (by first | decide | exact Nat.succ_pos _ | exact ne_of_E rfl (by decide)))); have n3_ := Aside0.mk (hb); have n4_ := Aside0.mk (ho); clear HO_7; clear HO_9; clear HI249; clear HB; clear HO_6; have HO_7 := n0_; have HO_9 := n1_; have HI249 := n2_; have HB := n3_; have HO261 := n4_; clear n0_ n1_ n2_ n3_ n4_; clear ho hb hg hat; obtain ⟨Ao26, co26, eo26⟩ := Kd.R_slice HO_9.out; subst eo26) | ((with_reducible refine gate_builtin (b := .append) (xs := #[.tmp 52, .tmp 53]) rfl ?_); (try (refine gate_guard (by rfl) ?_; dsimp only)); at_builtin; refine Kd.R_append_rows k37 (w0 := w) w.heap.size rfl (.tmp 52) (.tmp 53) 22 37 (.agg #[(.int .i64 0), (.int .u32 0), (.int .u64 0), (.int .i64 0), (.slice none 0 0), (.string ⟨#[]⟩)]) 72 rfl Try.underlying22 info37 rfl (by first | decide | exact Nat.succ_pos _ | exact ne_of_E rfl (by decide)) (by omega) u7 x7_1 t251 _ _ _ (fun k_ => some k_ ≠ (.slice Ao26 t251.length co26 : Value).ownBlock ∧ some k_ ≠ (v260 : Value).ownBlock) (fun _ => False) rfl rfl ?aO ?aR (fun _ _ h => h) (fun _ h => h.elim) ?aF ?aB ?aS ?aL ?_; (case aR => repeat (first | exact (Kd.R_reads' HO_9.out).2.2 | (with_reducible refine Kd.C_alloc ?_ _) | (with_reducible refine Kd.C_drewN ?_ _) | (with_reducible refine Kd.C_drew ?_))); (case aB => exact (by repeat (first | (with_reducible first | exact HB.out | apply below_alloc | apply pw_below_drewN | apply below_drew1 | refine below_set ?_ (IsS56.ge HI249.out)) | exact HB.out))); (case aF => exact (fun k_ hk => ⟨Kd.fresh' (Kd.R_lt (by (with_reducible repeat (first | apply Kd.R_alloc | apply Kd.R_drewN | apply Kd.R_drew)); exact HO_9.out)) k_ hk, Kd.fresh' (Kd.R_lt (by (with_reducible repeat (first | apply Kd.R_alloc | apply Kd.R_drewN | apply Kd.R_drew)); exact HO261.out)) k_ hk⟩)); (case aO => exact (by (with_reducible repeat (first | apply Kd.R_alloc | apply Kd.R_drewN | apply Kd.R_drew)); exact HO_7.out)); (case aS => exact (below_size (by repeat (first | (with_reducible first | exact HB.out | apply below_alloc | apply pw_below_drewN | apply below_drew1 | refine below_set ?_ (IsS56.ge HI249.out)) | exact HB.out)))); (case aL => have := LMc23.out; omega); intro v263 w25 ho hb hg hat; rw [← Ny262.out] at ho; have n0_ := Aside0.mk (Kd.R_after (ok := (fun k_ => some k_ ≠ (v260 : Value).ownBlock)) (by (with_reducible repeat (first | apply Kd.R_alloc | apply Kd.R_drewN | apply Kd.R_drew)); exact Kd.R_mono HO_9.out (fun _ hk => ⟨hk.2, hk.1⟩)) hg hat); have n1_ := Aside0.mk (IsS56.grown (by repeat (first | (with_reducible first | exact HI249.out | apply IsS56.alloc | apply IsS56.drewN | apply IsS56.drew | apply IsS56.set_0 | apply IsS56.set_1 | apply IsS56.set_2) | exact HI249.out)) hg (IsS56.own_ne HI249.out HO_7.out (by first | decide | exact Nat.succ_pos _ | exact ne_of_E rfl (by decide)))); have n2_ := Aside0.mk (Kd.R_after (ok := (fun k_ => some k_ ≠ (.slice Ao26 t251.length co26 : Value).ownBlock)) (by (with_reducible repeat (first | apply Kd.R_alloc | apply Kd.R_drewN | apply Kd.R_drew)); exact Kd.R_mono HO261.out (fun _ hk => ⟨hk.2, hk.1⟩)) hg hat); have n3_ := Aside0.mk (hb); have n4_ := Aside0.mk (ho); clear HO_9; clear HI249; clear HO261; clear HB; clear HO_7; have HO_9 := n0_; have HI249 := n1_; have HO261 := n2_; have HB := n3_; have HO264 := n4_; clear n0_ n1_ n2_ n3_ n4_; clear ho hb hg hat))
                              go_roundg kj13
                              case measure => have := HK1.out; have := HJ13.out; omega
                              case rel => exact ⟨(y259), (y262), (wrap64 (x8_1 + 1)), (t255), (t256), (t257), (by first | rfl | (simp; done) | (simp [*]; done)), H', ⟨by have := HK1.out; have := HJ13.out; omega⟩, ⟨by (with_reducible repeat (first | apply Kd.R_alloc | apply Kd.R_drewN | apply Kd.R_drew)); exact Kd.R_mono HO261.out (fun _ hk => hk.2)⟩, ⟨by (with_reducible repeat (first | apply Kd.R_alloc | apply Kd.R_drewN | apply Kd.R_drew)); exact Kd.R_mono HO264.out (fun _ hk => hk.2)⟩, ⟨by repeat (first | (with_reducible first | exact HI249.out | apply IsS56.alloc | apply IsS56.drewN | apply IsS56.drew | apply IsS56.set_0 | apply IsS56.set_1 | apply IsS56.set_2) | exact HI249.out)⟩, ⟨by repeat (first | (with_reducible first | exact HB.out | apply below_alloc | apply pw_below_drewN | apply below_drew1 | refine below_set ?_ (IsS56.ge HI249.out)) | exact HB.out)⟩⟩
                            · rw [if_neg c23] at H
                              exact absurd H (by simp)
                          · rw [if_neg c22] at H
                            exact absurd H (by simp)
                        · rw [if_neg c21] at H
                          exact absurd H (by simp)
                      · rw [if_neg c20] at H
                        exact absurd H (by simp)
                    · rw [if_neg c19] at H
                      have c19b0 : (t254 == 0) = false := beq_eq_false_iff_ne.mpr c19
                      have c19b1 : (t254 != 0) = true := bne_iff_ne.mpr c19
                      by_cases c27 : x7_1.length + t251.length < 1954687338268
                      · rw [if_pos c27] at H
                        have LMc27 := Aside0.mk c27
                        clear c27
                        obtain ⟨y265, hy265⟩ : ∃ y_ : List (S37), y_ = (x7_1 ++ t251) := ⟨_, rfl⟩
                        replace H : (consortlaw10_StreamOrders.l0 kj13 l1 x6_1 y265 (wrap64 (x8_1 + 1)) t255 t256 t257) = some true := by first | (rw [hy265]; with_reducible exact H) | (have H2_ := (Option.bind_some _ _).symm.trans H; rw [hy265]; with_reducible exact H2_) | (have H2_ := (Option.bind_some _ _).symm.trans H; with_reducible exact H2_) | with_reducible exact H | (rw [hy265]; exact H) | exact H
                        have Ny265 := Aside0.mk hy265
                        clear hy265
                        have H' := Aside0.mk H
                        clear H
                        obtain ⟨Ao29, co29, eo29⟩ := Kd.R_slice HO_9.out
                        subst eo29
                        go_wp2_with (first | ((with_reducible refine gate_builtin (b := .append) (xs := #[.tmp 52, .tmp 53]) rfl ?_); (try (refine gate_guard (by rfl) ?_; dsimp only)); at_builtin; refine Kd.R_append_rows k37 (w0 := w) w.heap.size rfl (.tmp 52) (.tmp 53) 22 37 (.agg #[(.int .i64 0), (.int .u32 0), (.int .u64 0), (.int .i64 0), (.slice none 0 0), (.string ⟨#[]⟩)]) 72 rfl Try.underlying22 info37 rfl (by first | decide | exact Nat.succ_pos _ | exact ne_of_E rfl (by decide)) (by omega) u7 x7_1 t251 _ _ _ (fun k_ => some k_ ≠ (u6 : Value).ownBlock ∧ some k_ ≠ (.slice Ao29 t251.length co29 : Value).ownBlock) (fun _ => False) rfl rfl ?aO ?aR (fun _ _ h => h) (fun _ h => h.elim) ?aF ?aB ?aS ?aL ?_; (case aR => repeat (first | exact (Kd.R_reads' HO_9.out).2.2 | (with_reducible refine Kd.C_alloc ?_ _) | (with_reducible refine Kd.C_drewN ?_ _) | (with_reducible refine Kd.C_drew ?_))); (case aB => exact (by repeat (first | (with_reducible first | exact HB.out | apply below_alloc | apply pw_below_drewN | apply below_drew1 | refine below_set ?_ (IsS56.ge HI249.out)) | exact HB.out))); (case aF => exact (fun k_ hk => ⟨Kd.fresh' (Kd.R_lt (by (with_reducible repeat (first | apply Kd.R_alloc | apply Kd.R_drewN | apply Kd.R_drew)); exact HO_6.out)) k_ hk, Kd.fresh' (Kd.R_lt (by (with_reducible repeat (first | apply Kd.R_alloc | apply Kd.R_drewN | apply Kd.R_drew)); exact HO_9.out)) k_ hk⟩)); (case aO => exact (by (with_reducible repeat (first | apply Kd.R_alloc | apply Kd.R_drewN | apply Kd.R_drew)); exact HO_7.out)); (case aS => exact (below_size (by repeat (first | (with_reducible first | exact HB.out | apply below_alloc | apply pw_below_drewN | apply below_drew1 | refine below_set ?_ (IsS56.ge HI249.out)) | exact HB.out)))); (case aL => have := LMc27.out; omega); intro v266 w28 ho hb hg hat; rw [← Ny265.out] at ho; have n0_ := Aside0.mk (Kd.R_after (ok := (fun k_ => some k_ ≠ (.slice Ao29 t251.length co29 : Value).ownBlock)) (by (with_reducible repeat (first | apply Kd.R_alloc | apply Kd.R_drewN | apply Kd.R_drew)); exact Kd.R_mono HO_6.out (fun _ hk => ⟨hk.2, hk.1⟩)) hg hat); have n1_ := Aside0.mk (Kd.R_after (ok := (fun k_ => some k_ ≠ (u6 : Value).ownBlock)) (by (with_reducible repeat (first | apply Kd.R_alloc | apply Kd.R_drewN | apply Kd.R_drew)); exact HO_9.out) hg hat); have n2_ := Aside0.mk (IsS56.grown (by repeat (first | (with_reducible first | exact HI249.out | apply IsS56.alloc | apply IsS56.drewN | apply IsS56.drew | apply IsS56.set_0 | apply IsS56.set_1 | apply IsS56.set_2) | exact HI249.out)) hg (IsS56.own_ne HI249.out HO_7.out (by first | decide | exact Nat.succ_pos _ | exact ne_of_E rfl (by decide)))); have n3_ := Aside0.mk (hb); have n4_ := Aside0.mk (ho); clear HO_6; clear HO_9; clear HI249; clear HB; clear HO_7; have HO_6 := n0_; have HO_9 := n1_; have HI249 := n2_; have HB := n3_; have HO267 := n4_; clear n0_ n1_ n2_ n3_ n4_; clear ho hb hg hat))
                        go_roundg kj13
                        case measure => have := HK1.out; have := HJ13.out; omega
                        case rel => exact ⟨(x6_1), (y265), (wrap64 (x8_1 + 1)), (t255), (t256), (t257), (by first | rfl | (simp; done) | (simp [*]; done)), H', ⟨by have := HK1.out; have := HJ13.out; omega⟩, ⟨by (with_reducible repeat (first | apply Kd.R_alloc | apply Kd.R_drewN | apply Kd.R_drew)); exact Kd.R_mono HO_6.out (fun _ hk => hk.2)⟩, ⟨by (with_reducible repeat (first | apply Kd.R_alloc | apply Kd.R_drewN | apply Kd.R_drew)); exact Kd.R_mono HO267.out (fun _ hk => hk.1)⟩, ⟨by repeat (first | (with_reducible first | exact HI249.out | apply IsS56.alloc | apply IsS56.drewN | apply IsS56.drew | apply IsS56.set_0 | apply IsS56.set_1 | apply IsS56.set_2) | exact HI249.out)⟩, ⟨by repeat (first | (with_reducible first | exact HB.out | apply below_alloc | apply pw_below_drewN | apply below_drew1 | refine below_set ?_ (IsS56.ge HI249.out)) | exact HB.out)⟩⟩
                      · rw [if_neg c27] at H
                        exact absurd H (by simp)
            · rw [if_neg c12] at H
              exact absurd H (by simp)
          · rw [if_neg c11] at H
            have c11b0 : decide (x8_1 < (l1.length : Int)) = false := decide_eq_false c11
            clear c11
            have H' := Aside0.mk H
            clear H
            go_wp2
            go_loopg [11] k1 (fun kq v11 w' => ∃ (x11_2 : Int), v11 = .int .i64 x11_2 ∧ Aside0 (consortlaw10_StreamOrders.l1 kq x6_1 x7_1 x11_2 x250000_1 x250001_1 x250002_1 = some true) ∧ Aside0 (kq ≤ k1) ∧ Aside0 (Kd.R k37 37 w' w.heap.size (fun k_ => some k_ ≠ (u7 : Value).ownBlock) u6 x6_1) ∧ Aside0 (Kd.R k37 37 w' w.heap.size (fun k_ => some k_ ≠ (u6 : Value).ownBlock) u7 x7_1) ∧ Aside0 (IsS56 w w' g249 x250000_1 x250001_1 x250002_1) ∧ Aside0 (Below w.heap.size w w'))
            case atStart => exact ⟨(0), (by first | rfl | (simp; done) | (simp [*]; done)), H', ⟨Nat.le_refl _⟩, ⟨by (with_reducible repeat (first | apply Kd.R_alloc | apply Kd.R_drewN | apply Kd.R_drew)); exact HO_6.out⟩, ⟨by (with_reducible repeat (first | apply Kd.R_alloc | apply Kd.R_drewN | apply Kd.R_drew)); exact HO_7.out⟩, ⟨by repeat (first | (with_reducible first | exact HI249.out | apply IsS56.alloc | apply IsS56.drewN | apply IsS56.drew | apply IsS56.set_0 | apply IsS56.set_1 | apply IsS56.set_2) | exact HI249.out)⟩, ⟨by repeat (first | (with_reducible first | exact HB.out | apply below_alloc | apply pw_below_drewN | apply below_drew1 | refine below_set ?_ (IsS56.ge HI249.out)) | exact HB.out)⟩⟩
            case round =>
              clear H'
              try clear c1
              try clear c2
              try clear p2
              try clear q2
              try clear hx2
              try clear c4
              try clear c6
              try clear p6
              try clear c7
              try clear c8
              try clear c9
              try clear c11
              try clear c11b0
              try clear c12
              try clear c12b0
              try clear c16
              try clear c16b0
              try clear c16b1
              try clear c18
              try clear c19
              try clear c19b0
              try clear c19b1
              try clear c20
              try clear c20b0
              try clear c21
              try clear c21b0
              try clear c22
              try clear c23
              try clear p25
              try clear q25
              try clear hx25
              try clear c27
              try clear hx250_0
              try clear hx250_1
              try clear hx250_2
              try clear hx250_3
              try clear hx250_4
              try clear hx250_5
              try clear hx258_0
              try clear hx258_1
              try clear hx258_2
              try clear hx258_3
              try clear hx258_4
              try clear hx258_5
              try clear p2
              try clear p250
              try clear p258
              try clear q2
              try clear q250
              try clear q258
              obtain ⟨x11_2, rfl, HA, HK2, HO_6, HO_7, HI249, HB⟩ := hrel
              cases gk with
              | zero => exact absurd HA.out (by simp [consortlaw10_StreamOrders.l1])
              | succ k2 =>
                have H := HA.out
                clear HA
                simp only [consortlaw10_StreamOrders.l1] at H
                by_cases c30 : x11_2 < (x7_1.length : Int)
                · rw [if_pos c30] at H
                  have c30b0 : decide (x11_2 < (x7_1.length : Int)) = true := decide_eq_true c30
                  clear c30
                  have H' := Aside0.mk H
                  clear H
                  obtain ⟨Ao31, co31, eo31⟩ := Kd.R_slice HO_7.out
                  subst eo31
                  go_wp2
                  go_loopg [12, 13] k2 (fun kq v12 v13 w' => ∃ (x12_3 : Bool) (x13_3 : Int), v12 = .bool x12_3 ∧ v13 = .int .i64 x13_3 ∧ Aside0 (consortlaw10_StreamOrders.l2 kq x6_1 x7_1 x11_2 x12_3 x13_3 x250000_1 x250001_1 x250002_1 = some true) ∧ Aside0 (kq ≤ k2) ∧ Aside0 (Kd.R k37 37 w' w.heap.size (fun k_ => some k_ ≠ ((.slice Ao31 x7_1.length co31) : Value).ownBlock) u6 x6_1) ∧ Aside0 (Kd.R k37 37 w' w.heap.size (fun k_ => some k_ ≠ (u6 : Value).ownBlock) (.slice Ao31 x7_1.length co31) x7_1) ∧ Aside0 (IsS56 w w' g249 x250000_1 x250001_1 x250002_1) ∧ Aside0 (Below w.heap.size w w'))
                  case atStart => exact ⟨(false), (0), (by first | rfl | (simp; done) | (simp [*]; done)), (by first | rfl | (simp; done) | (simp [*]; done)), H', ⟨Nat.le_refl _⟩, ⟨by (with_reducible repeat (first | apply Kd.R_alloc | apply Kd.R_drewN | apply Kd.R_drew)); exact HO_6.out⟩, ⟨by (with_reducible repeat (first | apply Kd.R_alloc | apply Kd.R_drewN | apply Kd.R_drew)); exact HO_7.out⟩, ⟨by repeat (first | (with_reducible first | exact HI249.out | apply IsS56.alloc | apply IsS56.drewN | apply IsS56.drew | apply IsS56.set_0 | apply IsS56.set_1 | apply IsS56.set_2) | exact HI249.out)⟩, ⟨by repeat (first | (with_reducible first | exact HB.out | apply below_alloc | apply pw_below_drewN | apply below_drew1 | refine below_set ?_ (IsS56.ge HI249.out)) | exact HB.out)⟩⟩
                  case round =>
                    clear H'
                    try clear c1
                    try clear c2
                    try clear p2
                    try clear q2
                    try clear hx2
                    try clear c3
                    try clear c4
                    try clear c6
                    try clear p6
                    try clear c7
                    try clear c8
                    try clear c9
                    try clear c11
                    try clear c11b0
                    try clear c12
                    try clear c12b0
                    try clear c16
                    try clear c16b0
                    try clear c16b1
                    try clear c18
                    try clear c19
                    try clear c19b0
                    try clear c19b1
                    try clear c20
                    try clear c20b0
                    try clear c21
                    try clear c21b0
                    try clear c22
                    try clear c23
                    try clear p25
                    try clear q25
                    try clear hx25
                    try clear c27
                    try clear c30
                    try clear c30b0
                    try clear hx250_0
                    try clear hx250_1
                    try clear hx250_2
                    try clear hx250_3
                    try clear hx250_4
                    try clear hx250_5
                    try clear hx258_0
                    try clear hx258_1
                    try clear hx258_2
                    try clear hx258_3
                    try clear hx258_4
                    try clear hx258_5
                    try clear p2
                    try clear p25
                    try clear p250
                    try clear p258
                    try clear p6
                    try clear q2
                    try clear q25
                    try clear q250
                    try clear q258
                    obtain ⟨x12_3, x13_3, rfl, rfl, HA, HK3, HO_6, HO_7, HI249, HB⟩ := hrel
                    cases gk with
                    | zero => exact absurd HA.out (by simp [consortlaw10_StreamOrders.l2])
                    | succ k3 =>
                      have H := HA.out
                      clear HA
                      simp only [consortlaw10_StreamOrders.l2] at H
                      by_cases c32 : x13_3 < (x6_1.length : Int)
                      · rw [if_pos c32] at H
                        have c32b0 : decide (x13_3 < (x6_1.length : Int)) = true := decide_eq_true c32
                        clear c32
                        by_cases c33 : x12_3 = true
                        · subst c33
                          have H1 : (consortlaw10_StreamOrders.l2 k3 x6_1 x7_1 x11_2 true (wrap64 (x13_3 + 1)) x250000_1 x250001_1 x250002_1) = some true := by first | (rw [if_pos rfl] at H; done) | (rw [if_pos rfl] at H; exact H)
                          clear H
                          have H := H1
                          clear H1
                          have H' := Aside0.mk H
                          clear H
                          obtain ⟨Ao34, co34, eo34⟩ := Kd.R_slice HO_6.out
                          subst eo34
                          try go_wp2
                          have n0_ := Aside0.mk (Kd.R_drew HO_6.out)
                          have n1_ := Aside0.mk (Kd.R_drew HO_7.out)
                          have n2_ := Aside0.mk (IsS56.drew HI249.out)
                          have n3_ := Aside0.mk (below_drew1 HB.out)
                          clear HO_6
                          clear HO_7
                          clear HI249
                          clear HB
                          have HO_6 := n0_
                          have HO_7 := n1_
                          have HI249 := n2_
                          have HB := n3_
                          clear n0_ n1_ n2_ n3_
                          refine start_ (n := 13) (S := fun w' => True) (ds := []) #[false, false, false, false, false, false, false, false, false, false, false, false, false] (by kernel_rfl) rfl rfl trivial (fun hHeld => ?_); refine with_tabW consortlaw10_StreamOrders.tab23 consortlaw10_StreamOrders.bits23 (fun HT_ HW_ => ?_)
                          generalize wr.drew = w35 at HO_6 HO_7 HI249 HB hHeld ⊢
                          refine pure_ (i := 0) (N := some 67) (v := ?_) (a' := ?_) #[true, false, false, false, false, false, false, false, false, false, false, false, false] rfl rfl (any_of HT_.out (by kernel_rfl)) (fun _ _ _ h => h) (Or.inl ⟨by rfl, ?_⟩) ?_ ?_
                          rotate_left
                          · intro w'
                            go_simp
                            with_reducible rfl
                          rotate_left
                          · simp only [Act.put, List.setIfInBounds_toArray, List.set_cons_zero, List.set_cons_succ, i64_w, i32_w]
                            rfl
                          refine pure_ (i := 1) (N := some 68) (v := ?_) (a' := ?_) #[true, true, false, false, false, false, false, false, false, false, false, false, false] rfl rfl (any_of HT_.out (by kernel_rfl)) (fun _ _ _ h => h) (Or.inl ⟨by rfl, ?_⟩) ?_ ?_
                          rotate_left
                          · intro w'
                            go_simp
                            with_reducible rfl
                          rotate_left
                          · simp only [Act.put, List.setIfInBounds_toArray, List.set_cons_zero, List.set_cons_succ, i64_w, i32_w]
                            rfl
                          refine pure_ (i := 2) (N := some 69) (v := undef) (a' := ?_) #[true, true, true, false, false, false, false, false, false, false, false, false, false] rfl rfl (any_of HT_.out (by kernel_rfl)) (fun _ _ _ h => h) (Or.inr ⟨by rfl, rfl⟩) ?_ ?_
                          rotate_left
                          · simp only [Act.put, List.setIfInBounds_toArray, List.set_cons_zero, List.set_cons_succ, i64_w, i32_w]
                            rfl
                          refine pure_ (i := 3) (N := some 70) (v := undef) (a' := ?_) #[true, true, true, true, false, false, false, false, false, false, false, false, false] rfl rfl (any_of HT_.out (by kernel_rfl)) (fun _ _ _ h => h) (Or.inr ⟨by rfl, rfl⟩) ?_ ?_
                          rotate_left
                          · simp only [Act.put, List.setIfInBounds_toArray, List.set_cons_zero, List.set_cons_succ, i64_w, i32_w]
                            rfl
                          refine pure_ (i := 4) (N := some 71) (v := undef) (a' := ?_) #[true, true, true, true, true, false, false, false, false, false, false, false, false] rfl rfl (any_of HT_.out (by kernel_rfl)) (fun _ _ _ h => h) (Or.inr ⟨by rfl, rfl⟩) ?_ ?_
                          rotate_left
                          · simp only [Act.put, List.setIfInBounds_toArray, List.set_cons_zero, List.set_cons_succ, i64_w, i32_w]
                            rfl
                          refine pure_ (i := 5) (N := some 72) (v := undef) (a' := ?_) #[true, true, true, true, true, true, false, false, false, false, false, false, false] rfl rfl (any_of HT_.out (by kernel_rfl)) (fun _ _ _ h => h) (Or.inr ⟨by rfl, rfl⟩) ?_ ?_
                          rotate_left
                          · simp only [Act.put, List.setIfInBounds_toArray, List.set_cons_zero, List.set_cons_succ, i64_w, i32_w]
                            rfl
                          refine pure_ (i := 6) (N := some 73) (v := undef) (a' := ?_) #[true, true, true, true, true, true, true, false, false, false, false, false, false] rfl rfl (any_of HT_.out (by kernel_rfl)) (fun _ _ _ h => h) (Or.inr ⟨by rfl, rfl⟩) ?_ ?_
                          rotate_left
                          · simp only [Act.put, List.setIfInBounds_toArray, List.set_cons_zero, List.set_cons_succ, i64_w, i32_w]
                            rfl
                          refine pure_ (i := 7) (N := some 74) (v := undef) (a' := ?_) #[true, true, true, true, true, true, true, true, false, false, false, false, false] rfl rfl (any_of HT_.out (by kernel_rfl)) (fun _ _ _ h => h) (Or.inr ⟨by rfl, rfl⟩) ?_ ?_
                          rotate_left
                          · simp only [Act.put, List.setIfInBounds_toArray, List.set_cons_zero, List.set_cons_succ, i64_w, i32_w]
                            rfl
                          refine pure_ (i := 8) (N := some 75) (v := undef) (a' := ?_) #[true, true, true, true, true, true, true, true, true, false, false, false, false] rfl rfl (any_of HT_.out (by kernel_rfl)) (fun _ _ _ h => h) (Or.inr ⟨by rfl, rfl⟩) ?_ ?_
                          rotate_left
                          · simp only [Act.put, List.setIfInBounds_toArray, List.set_cons_zero, List.set_cons_succ, i64_w, i32_w]
                            rfl
                          refine pure_ (i := 9) (N := some 76) (v := undef) (a' := ?_) #[true, true, true, true, true, true, true, true, true, true, false, false, false] rfl rfl (any_of HT_.out (by kernel_rfl)) (fun _ _ _ h => h) (Or.inr ⟨by rfl, rfl⟩) ?_ ?_
                          rotate_left
                          · simp only [Act.put, List.setIfInBounds_toArray, List.set_cons_zero, List.set_cons_succ, i64_w, i32_w]
                            rfl
                          refine pure_ (i := 10) (N := some 77) (v := undef) (a' := ?_) #[true, true, true, true, true, true, true, true, true, true, true, false, false] rfl rfl (any_of HT_.out (by kernel_rfl)) (fun _ _ _ h => h) (Or.inr ⟨by rfl, rfl⟩) ?_ ?_
                          rotate_left
                          · simp only [Act.put, List.setIfInBounds_toArray, List.set_cons_zero, List.set_cons_succ, i64_w, i32_w]
                            rfl
                          refine pure_ (i := 11) (N := some 78) (v := ?_) (a' := ?_) #[true, true, true, true, true, true, true, true, true, true, true, true, false] rfl rfl (any_of HT_.out (by kernel_rfl)) (fun _ _ _ h => h) (Or.inl ⟨by rfl, ?_⟩) ?_ ?_
                          rotate_left
                          · intro w'
                            go_simp
                            with_reducible rfl
                          rotate_left
                          · simp only [Act.put, List.setIfInBounds_toArray, List.set_cons_zero, List.set_cons_succ, i64_w, i32_w]
                            rfl
                          refine pure_ (i := 12) (N := some 12) (v := ?_) (a' := ?_) #[true, true, true, true, true, true, true, true, true, true, true, true, true] rfl rfl (any_of HT_.out (by kernel_rfl)) (fun _ _ _ h => h) (Or.inl ⟨by rfl, ?_⟩) ?_ ?_
                          rotate_left
                          · intro w'
                            go_simp
                            with_reducible rfl
                          rotate_left
                          · simp only [Act.put, List.setIfInBounds_toArray, List.set_cons_zero, List.set_cons_succ, i64_w, i32_w]
                            rfl
                          refine done_ (done_of HT_.out (by kernel_rfl)) ?_
                          try go_wp2
                          go_roundg k3
                          case measure => have := HK1.out; have := HK2.out; have := HK3.out; omega
                          case rel => exact ⟨(true), (wrap64 (x13_3 + 1)), (by first | rfl | (simp; done) | (simp [*]; done)), (by first | rfl | (simp; done) | (simp [*]; done)), H', ⟨by have := HK1.out; have := HK2.out; have := HK3.out; omega⟩, ⟨by (with_reducible repeat (first | apply Kd.R_alloc | apply Kd.R_drewN | apply Kd.R_drew)); exact HO_6.out⟩, ⟨by (with_reducible repeat (first | apply Kd.R_alloc | apply Kd.R_drewN | apply Kd.R_drew)); exact HO_7.out⟩, ⟨by repeat (first | (with_reducible first | exact HI249.out | apply IsS56.alloc | apply IsS56.drewN | apply IsS56.drew | apply IsS56.set_0 | apply IsS56.set_1 | apply IsS56.set_2) | exact HI249.out)⟩, ⟨by repeat (first | (with_reducible first | exact HB.out | apply below_alloc | apply pw_below_drewN | apply below_drew1 | refine below_set ?_ (IsS56.ge HI249.out)) | exact HB.out)⟩⟩
                        · replace c33 := Bool.eq_false_iff.mpr c33
                          subst c33
                          have H1 : (if 0 ≤ x13_3 then (if 0 ≤ x11_2 then (if x11_2 < (x7_1.length : Int) then ((ref03_Same.f k3 ((rd_T37 x6_1 x13_3).f0) ((rd_T37 x6_1 x13_3).f1) ((rd_T37 x6_1 x13_3).f2) ((rd_T37 x6_1 x13_3).f3) ((rd_T37 x6_1 x13_3).f4) ((rd_T37 x6_1 x13_3).f5) ((rd_T37 x7_1 x11_2).f0) ((rd_T37 x7_1 x11_2).f1) ((rd_T37 x7_1 x11_2).f2) ((rd_T37 x7_1 x11_2).f3) ((rd_T37 x7_1 x11_2).f4) ((rd_T37 x7_1 x11_2).f5)).bind fun t282 => (consortlaw10_StreamOrders.l2 k3 x6_1 x7_1 x11_2 t282 (wrap64 (x13_3 + 1)) x250000_1 x250001_1 x250002_1)) else (none)) else (none)) else (none)) = some true := by first | (rw [if_neg (show ¬ (false = true) by decide)] at H; done) | (rw [if_neg (show ¬ (false = true) by decide)] at H; exact H)
                          clear H
                          have H := H1
                          clear H1
                          by_cases c36 : 0 ≤ x13_3
                          · rw [if_pos c36] at H
                            have c36b0 : decide (0 ≤ x13_3) = true := decide_eq_true c36
                            clear c36
                            by_cases c37 : 0 ≤ x11_2
                            · rw [if_pos c37] at H
                              have c37b0 : decide (0 ≤ x11_2) = true := decide_eq_true c37
                              clear c37
                              by_cases c38 : x11_2 < (x7_1.length : Int)
                              · rw [if_pos c38] at H
                                have c38b0 : decide (x11_2 < (x7_1.length : Int)) = true := decide_eq_true c38
                                clear c38
                                replace H := Option.bind_eq_some_iff.mp H
                                obtain ⟨t282, A390, H⟩ := H
                                replace H : (consortlaw10_StreamOrders.l2 k3 x6_1 x7_1 x11_2 t282 (wrap64 (x13_3 + 1)) x250000_1 x250001_1 x250002_1) = some true := H
                                have A39 := Aside0.mk A390
                                clear A390
                                have H' := Aside0.mk H
                                clear H
                                obtain ⟨Ao40, co40, eo40⟩ := Kd.R_slice HO_6.out
                                subst eo40
                                try go_wp2
                                have n0_ := Aside0.mk (Kd.R_drew HO_6.out)
                                have n1_ := Aside0.mk (Kd.R_drew HO_7.out)
                                have n2_ := Aside0.mk (IsS56.drew HI249.out)
                                have n3_ := Aside0.mk (below_drew1 HB.out)
                                clear HO_6
                                clear HO_7
                                clear HI249
                                clear HB
                                have HO_6 := n0_
                                have HO_7 := n1_
                                have HI249 := n2_
                                have HB := n3_
                                clear n0_ n1_ n2_ n3_
                                have p280 : 0 ≤ (x13_3 : Int) := of_decide_eq_true (by first | (with_reducible assumption) | assumption)
                                have q280 : x13_3 < (x6_1.length : Int) := of_decide_eq_true (by first | (with_reducible assumption) | assumption)
                                obtain ⟨ad280, e280, hx280_0, hx280_1, hx280_2, hx280_3, hx280_4, hx280_5⟩ := at_T37 (Kd.R_reads' HO_6.out).2.2 x13_3 p280 q280
                                cases e280
                                replace p280 := eq_true p280
                                replace q280 := eq_true q280
                                have p281 : 0 ≤ (x11_2 : Int) := of_decide_eq_true (by first | (with_reducible assumption) | assumption)
                                have q281 : x11_2 < (x7_1.length : Int) := of_decide_eq_true (by first | (with_reducible assumption) | assumption)
                                obtain ⟨ad281, e281, hx281_0, hx281_1, hx281_2, hx281_3, hx281_4, hx281_5⟩ := at_T37 (Kd.R_reads' HO_7.out).2.2 x11_2 p281 q281
                                cases e281
                                replace p281 := eq_true p281
                                replace q281 := eq_true q281
                                refine start_ (n := 13) (S := fun w' => w'.cell? (ad280.add ((x13_3).toNat * 6)) = some (.int .i64 ((rd_T37 x6_1 x13_3).f0)) ∧ w'.cell? ⟨(ad280.add ((x13_3).toNat * 6)).block, (ad280.add ((x13_3).toNat * 6)).off + 1, none⟩ = some (.int .u32 ((rd_T37 x6_1 x13_3).f1)) ∧ w'.cell? ⟨(ad280.add ((x13_3).toNat * 6)).block, (ad280.add ((x13_3).toNat * 6)).off + 2, none⟩ = some (.int .u64 ((rd_T37 x6_1 x13_3).f2)) ∧ w'.cell? ⟨(ad280.add ((x13_3).toNat * 6)).block, (ad280.add ((x13_3).toNat * 6)).off + 3, none⟩ = some (.int .i64 ((rd_T37 x6_1 x13_3).f3)) ∧ w'.cell? ⟨(ad280.add ((x13_3).toNat * 6)).block, (ad280.add ((x13_3).toNat * 6)).off + 4, none⟩ = some (.slice ((rd_T37 x6_1 x13_3).f4).A ((rd_T37 x6_1 x13_3).f4).n ((rd_T37 x6_1 x13_3).f4).c) ∧ w'.cell? ⟨(ad280.add ((x13_3).toNat * 6)).block, (ad280.add ((x13_3).toNat * 6)).off + 5, none⟩ = some (.string ((rd_T37 x6_1 x13_3).f5)) ∧ w'.cell? (ad281.add ((x11_2).toNat * 6)) = some (.int .i64 ((rd_T37 x7_1 x11_2).f0)) ∧ w'.cell? ⟨(ad281.add ((x11_2).toNat * 6)).block, (ad281.add ((x11_2).toNat * 6)).off + 1, none⟩ = some (.int .u32 ((rd_T37 x7_1 x11_2).f1)) ∧ w'.cell? ⟨(ad281.add ((x11_2).toNat * 6)).block, (ad281.add ((x11_2).toNat * 6)).off + 2, none⟩ = some (.int .u64 ((rd_T37 x7_1 x11_2).f2)) ∧ w'.cell? ⟨(ad281.add ((x11_2).toNat * 6)).block, (ad281.add ((x11_2).toNat * 6)).off + 3, none⟩ = some (.int .i64 ((rd_T37 x7_1 x11_2).f3)) ∧ w'.cell? ⟨(ad281.add ((x11_2).toNat * 6)).block, (ad281.add ((x11_2).toNat * 6)).off + 4, none⟩ = some (.slice ((rd_T37 x7_1 x11_2).f4).A ((rd_T37 x7_1 x11_2).f4).n ((rd_T37 x7_1 x11_2).f4).c) ∧ w'.cell? ⟨(ad281.add ((x11_2).toNat * 6)).block, (ad281.add ((x11_2).toNat * 6)).off + 5, none⟩ = some (.string ((rd_T37 x7_1 x11_2).f5))) (ds := []) #[false, false, false, false, false, false, false, false, false, false, false, false, false] (by kernel_rfl) rfl rfl ⟨hx280_0, hx280_1, hx280_2, hx280_3, hx280_4, hx280_5, hx281_0, hx281_1, hx281_2, hx281_3, hx281_4, hx281_5⟩ (fun hHeld => ?_); refine with_tabW consortlaw10_StreamOrders.tab23 consortlaw10_StreamOrders.bits23 (fun HT_ HW_ => ?_)
                                generalize wr.drew = w41 at HO_6 HO_7 HI249 HB hx280_0 hx280_1 hx280_2 hx280_3 hx280_4 hx280_5 hx281_0 hx281_1 hx281_2 hx281_3 hx281_4 hx281_5 hHeld ⊢
                                refine pure_ (i := 0) (N := some 67) (v := ?_) (a' := ?_) #[true, false, false, false, false, false, false, false, false, false, false, false, false] rfl rfl (any_of HT_.out (by kernel_rfl)) (fun _ _ _ h => h) (Or.inl ⟨by rfl, ?_⟩) ?_ ?_
                                rotate_left
                                · intro w'
                                  go_simp
                                  with_reducible rfl
                                rotate_left
                                · simp only [Act.put, List.setIfInBounds_toArray, List.set_cons_zero, List.set_cons_succ, i64_w, i32_w]
                                  rfl
                                refine pure_ (i := 1) (N := some 68) (v := ?_) (a' := ?_) #[true, true, false, false, false, false, false, false, false, false, false, false, false] rfl rfl (any_of HT_.out (by kernel_rfl)) (fun _ _ _ h => h) (Or.inl ⟨by rfl, ?_⟩) ?_ ?_
                                rotate_left
                                · intro w'
                                  go_simp
                                  with_reducible rfl
                                rotate_left
                                · simp only [Act.put, List.setIfInBounds_toArray, List.set_cons_zero, List.set_cons_succ, i64_w, i32_w]
                                  rfl
                                refine pure_ (i := 2) (N := some 69) (v := ?_) (a' := ?_) #[true, true, true, false, false, false, false, false, false, false, false, false, false] rfl rfl (any_of HT_.out (by kernel_rfl)) (fun _ _ _ h => h) (Or.inl ⟨by rfl, ?_⟩) ?_ ?_
                                rotate_left
                                · intro w'
                                  go_simp
                                  with_reducible rfl
                                rotate_left
                                · simp only [Act.put, List.setIfInBounds_toArray, List.set_cons_zero, List.set_cons_succ, i64_w, i32_w]
                                  rfl
                                refine pure_ (i := 3) (N := some 70) (v := ?_) (a' := ?_) #[true, true, true, true, false, false, false, false, false, false, false, false, false] rfl rfl (any_of HT_.out (by kernel_rfl)) (fun _ _ _ h => h) (Or.inl ⟨by rfl, ?_⟩) ?_ ?_
                                rotate_left
                                · intro w'
                                  go_simp
                                  with_reducible rfl
                                rotate_left
                                · simp only [Act.put, List.setIfInBounds_toArray, List.set_cons_zero, List.set_cons_succ, i64_w, i32_w]
                                  rfl
                                refine pure_ (i := 4) (N := some 71) (v := ?_) (a' := ?_) #[true, true, true, true, true, false, false, false, false, false, false, false, false] rfl rfl (any_of HT_.out (by kernel_rfl)) (fun _ _ _ h => h) (Or.inl ⟨by rfl, ?_⟩) ?_ ?_
                                rotate_left
                                · intro w'
                                  go_simp
                                  with_reducible rfl
                                rotate_left
                                · simp only [Act.put, List.setIfInBounds_toArray, List.set_cons_zero, List.set_cons_succ, i64_w, i32_w]
                                  rfl
                                refine pure_ (i := 6) (N := some 73) (v := ?_) (a' := ?_) #[true, true, true, true, true, false, true, false, false, false, false, false, false] rfl rfl (any_of HT_.out (by kernel_rfl)) (fun _ _ _ h => h) (Or.inl ⟨by rfl, ?_⟩) ?_ ?_
                                rotate_left
                                · intro w'
                                  go_simp
                                  with_reducible rfl
                                rotate_left
                                · simp only [Act.put, List.setIfInBounds_toArray, List.set_cons_zero, List.set_cons_succ, i64_w, i32_w]
                                  rfl
                                refine pure_ (i := 7) (N := some 74) (v := ?_) (a' := ?_) #[true, true, true, true, true, false, true, true, false, false, false, false, false] rfl rfl (any_of HT_.out (by kernel_rfl)) (fun _ _ _ h => h) (Or.inl ⟨by rfl, ?_⟩) ?_ ?_
                                rotate_left
                                · intro w'
                                  go_simp
                                  with_reducible rfl
                                rotate_left
                                · simp only [Act.put, List.setIfInBounds_toArray, List.set_cons_zero, List.set_cons_succ, i64_w, i32_w]
                                  rfl
                                refine pure_ (i := 8) (N := some 75) (v := ?_) (a' := ?_) #[true, true, true, true, true, false, true, true, true, false, false, false, false] rfl rfl (any_of HT_.out (by kernel_rfl)) (fun _ _ _ h => h) (Or.inl ⟨by rfl, ?_⟩) ?_ ?_
                                rotate_left
                                · intro w'
                                  go_simp
                                  with_reducible rfl
                                rotate_left
                                · simp only [Act.put, List.setIfInBounds_toArray, List.set_cons_zero, List.set_cons_succ, i64_w, i32_w]
                                  rfl
                                refine take_ (i := 5) (N := some 72) (v := ?_) (a' := ?_) #[true, true, true, true, true, true, true, true, true, false, false, false, false] rfl rfl (take_ofW HT_.out HW_.out (by kernel_rfl)) (fun _ _ _ h => h) (Or.inl ⟨by rfl, ?_⟩) hHeld ?_ ?_
                                rotate_left
                                · rintro w' ⟨s0, s1, s2, s3, s4, s5, s6, s7, s8, s9, s10, s11⟩
                                  go_simp
                                  with_reducible rfl
                                rotate_left
                                · simp only [Act.put, List.setIfInBounds_toArray, List.set_cons_zero, List.set_cons_succ, i64_w, i32_w]
                                  rfl
                                refine take_ (i := 9) (N := some 76) (v := ?_) (a' := ?_) #[true, true, true, true, true, true, true, true, true, true, false, false, false] rfl rfl (take_ofW HT_.out HW_.out (by kernel_rfl)) (fun _ _ _ h => h) (Or.inl ⟨by rfl, ?_⟩) hHeld ?_ ?_
                                rotate_left
                                · rintro w' ⟨s0, s1, s2, s3, s4, s5, s6, s7, s8, s9, s10, s11⟩
                                  go_simp
                                  with_reducible rfl
                                rotate_left
                                · simp only [Act.put, List.setIfInBounds_toArray, List.set_cons_zero, List.set_cons_succ, i64_w, i32_w]
                                  rfl
                                refine one_ (i := 10) (N := some 77) #[true, true, true, true, true, true, true, true, true, true, true, false, false] rfl rfl (one_of HT_.out (by kernel_rfl)) (by first | decide | exact Nat.succ_pos _ | exact ne_of_E rfl (by decide)) (fun K hK => ?_)
                                refine goes_ Try.func18 (by kernel_rfl) rfl #[.agg #[.int .i64 ((rd_T37 x6_1 x13_3).f0), .int .u32 ((rd_T37 x6_1 x13_3).f1), .int .u64 ((rd_T37 x6_1 x13_3).f2), .int .i64 ((rd_T37 x6_1 x13_3).f3), .slice ((rd_T37 x6_1 x13_3).f4).A ((rd_T37 x6_1 x13_3).f4).n ((rd_T37 x6_1 x13_3).f4).c, .string ((rd_T37 x6_1 x13_3).f5)], .agg #[.int .i64 ((rd_T37 x7_1 x11_2).f0), .int .u32 ((rd_T37 x7_1 x11_2).f1), .int .u64 ((rd_T37 x7_1 x11_2).f2), .int .i64 ((rd_T37 x7_1 x11_2).f3), .slice ((rd_T37 x7_1 x11_2).f4).A ((rd_T37 x7_1 x11_2).f4).n ((rd_T37 x7_1 x11_2).f4).c, .string ((rd_T37 x7_1 x11_2).f5)]] (by rfl) rfl rfl (by (try simp only [List.map_toArray, List.map_cons, List.map_nil]); first | done | rfl | (simp only [List.length_drop, List.length_take]; rfl)) ?_
                                with_reducible refine (ref03_Same.calls k3 ((rd_T37 x6_1 x13_3).f0) ((rd_T37 x6_1 x13_3).f1) ((rd_T37 x6_1 x13_3).f2) ((rd_T37 x6_1 x13_3).f3) ((rd_T37 x6_1 x13_3).f4) ((rd_T37 x6_1 x13_3).f5) ((rd_T37 x7_1 x11_2).f0) ((rd_T37 x7_1 x11_2).f1) ((rd_T37 x7_1 x11_2).f2) ((rd_T37 x7_1 x11_2).f3) ((rd_T37 x7_1 x11_2).f4) ((rd_T37 x7_1 x11_2).f5) t282 _ ?sideW A39.out).mono ?_
                                case sideW => exact below_step HW.out (by repeat (first | (with_reducible first | exact HB.out | apply below_alloc | apply pw_below_drewN | apply below_drew1 | refine below_set ?_ (IsS56.ge HI249.out)) | exact HB.out))
                                rintro e w42 ⟨rfl, hb⟩
                                have HS0_ := (hb.cell (World.block_lt_of_cell? _ _ (hHeld.1))).trans (hHeld.1)
                                have HS1_ := (hb.cell (World.block_lt_of_cell? _ _ (hHeld.2.1))).trans (hHeld.2.1)
                                have HS2_ := (hb.cell (World.block_lt_of_cell? _ _ (hHeld.2.2.1))).trans (hHeld.2.2.1)
                                have HS3_ := (hb.cell (World.block_lt_of_cell? _ _ (hHeld.2.2.2.1))).trans (hHeld.2.2.2.1)
                                have HS4_ := (hb.cell (World.block_lt_of_cell? _ _ (hHeld.2.2.2.2.1))).trans (hHeld.2.2.2.2.1)
                                have HS5_ := (hb.cell (World.block_lt_of_cell? _ _ (hHeld.2.2.2.2.2.1))).trans (hHeld.2.2.2.2.2.1)
                                have HS6_ := (hb.cell (World.block_lt_of_cell? _ _ (hHeld.2.2.2.2.2.2.1))).trans (hHeld.2.2.2.2.2.2.1)
                                have HS7_ := (hb.cell (World.block_lt_of_cell? _ _ (hHeld.2.2.2.2.2.2.2.1))).trans (hHeld.2.2.2.2.2.2.2.1)
                                have HS8_ := (hb.cell (World.block_lt_of_cell? _ _ (hHeld.2.2.2.2.2.2.2.2.1))).trans (hHeld.2.2.2.2.2.2.2.2.1)
                                have HS9_ := (hb.cell (World.block_lt_of_cell? _ _ (hHeld.2.2.2.2.2.2.2.2.2.1))).trans (hHeld.2.2.2.2.2.2.2.2.2.1)
                                have HS10_ := (hb.cell (World.block_lt_of_cell? _ _ (hHeld.2.2.2.2.2.2.2.2.2.2.1))).trans (hHeld.2.2.2.2.2.2.2.2.2.2.1)
                                have HS11_ := (hb.cell (World.block_lt_of_cell? _ _ (hHeld.2.2.2.2.2.2.2.2.2.2.2))).trans (hHeld.2.2.2.2.2.2.2.2.2.2.2)
                                refine ⟨_, rfl, ?_⟩
                                have n0_ := Aside0.mk (Kd.R_below (by (with_reducible repeat (first | apply Kd.R_alloc | apply Kd.R_drewN | apply Kd.R_drew)); exact HO_6.out) hb)
                                have n1_ := Aside0.mk (Kd.R_below (by (with_reducible repeat (first | apply Kd.R_alloc | apply Kd.R_drewN | apply Kd.R_drew)); exact HO_7.out) hb)
                                have n2_ := Aside0.mk (IsS56.below (by repeat (first | (with_reducible first | exact HI249.out | apply IsS56.alloc | apply IsS56.drewN | apply IsS56.drew | apply IsS56.set_0 | apply IsS56.set_1 | apply IsS56.set_2) | exact HI249.out)) hb)
                                have n3_ := Aside0.mk (below_step (by repeat (first | (with_reducible first | exact HB.out | apply below_alloc | apply pw_below_drewN | apply below_drew1 | refine below_set ?_ (IsS56.ge HI249.out)) | exact HB.out)) hb)
                                clear HO_6
                                clear HO_7
                                clear HI249
                                clear HB
                                have HO_6 := n0_
                                have HO_7 := n1_
                                have HI249 := n2_
                                have HB := n3_
                                clear n0_ n1_ n2_ n3_
                                (try clear hb)
                                (try clear hb2)
                                (try clear hk)
                                (try clear hi)
                                refine hK.out _ _ ⟨HS0_, HS1_, HS2_, HS3_, HS4_, HS5_, HS6_, HS7_, HS8_, HS9_, HS10_, HS11_⟩ (fun hHeld => ?_)
                                clear hK K
                                refine norm_ (a' := ?_) ?_ ?_
                                rotate_left
                                · show Act.put _ (some 77) _ = _
                                  simp only [Act.put, List.setIfInBounds_toArray, List.set_cons_zero, List.set_cons_succ, i64_w, i32_w]
                                  rfl
                                refine pure_ (i := 11) (N := some 78) (v := ?_) (a' := ?_) #[true, true, true, true, true, true, true, true, true, true, true, true, false] rfl rfl (any_of HT_.out (by kernel_rfl)) (fun _ _ _ h => h) (Or.inl ⟨by rfl, ?_⟩) ?_ ?_
                                rotate_left
                                · intro w'
                                  go_simp
                                  with_reducible rfl
                                rotate_left
                                · simp only [Act.put, List.setIfInBounds_toArray, List.set_cons_zero, List.set_cons_succ, i64_w, i32_w]
                                  rfl
                                refine pure_ (i := 12) (N := some 12) (v := ?_) (a' := ?_) #[true, true, true, true, true, true, true, true, true, true, true, true, true] rfl rfl (any_of HT_.out (by kernel_rfl)) (fun _ _ _ h => h) (Or.inl ⟨by rfl, ?_⟩) ?_ ?_
                                rotate_left
                                · intro w'
                                  go_simp
                                  with_reducible rfl
                                rotate_left
                                · simp only [Act.put, List.setIfInBounds_toArray, List.set_cons_zero, List.set_cons_succ, i64_w, i32_w]
                                  rfl
                                refine done_ (done_of HT_.out (by kernel_rfl)) ?_
                                try go_wp2
                                go_roundg k3
                                case measure => have := HK1.out; have := HK2.out; have := HK3.out; omega
                                case rel => exact ⟨(t282), (wrap64 (x13_3 + 1)), (by first | rfl | (simp; done) | (simp [*]; done)), (by first | rfl | (simp; done) | (simp [*]; done)), H', ⟨by have := HK1.out; have := HK2.out; have := HK3.out; omega⟩, ⟨by (with_reducible repeat (first | apply Kd.R_alloc | apply Kd.R_drewN | apply Kd.R_drew)); exact HO_6.out⟩, ⟨by (with_reducible repeat (first | apply Kd.R_alloc | apply Kd.R_drewN | apply Kd.R_drew)); exact HO_7.out⟩, ⟨by repeat (first | (with_reducible first | exact HI249.out | apply IsS56.alloc | apply IsS56.drewN | apply IsS56.drew | apply IsS56.set_0 | apply IsS56.set_1 | apply IsS56.set_2) | exact HI249.out)⟩, ⟨by repeat (first | (with_reducible first | exact HB.out | apply below_alloc | apply pw_below_drewN | apply below_drew1 | refine below_set ?_ (IsS56.ge HI249.out)) | exact HB.out)⟩⟩
                              · rw [if_neg c38] at H
                                exact absurd H (by simp)
                            · rw [if_neg c37] at H
                              exact absurd H (by simp)
                          · rw [if_neg c36] at H
                            exact absurd H (by simp)
                      · rw [if_neg c32] at H
                        have c32b0 : decide (x13_3 < (x6_1.length : Int)) = false := decide_eq_false c32
                        clear c32
                        by_cases c43 : 0 ≤ x11_2
                        · rw [if_pos c43] at H
                          have c43b0 : decide (0 ≤ x11_2) = true := decide_eq_true c43
                          clear c43
                          by_cases c44 : x11_2 < (x7_1.length : Int)
                          · rw [if_pos c44] at H
                            have c44b0 : decide (x11_2 < (x7_1.length : Int)) = true := decide_eq_true c44
                            clear c44
                            by_cases c45 : ((rd_T37 x7_1 x11_2).f1) = ((wrap64 (x11_2 + 1)) % 4294967296)
                            · rw [if_pos c45] at H
                              have c45b0 : (((rd_T37 x7_1 x11_2).f1) == ((wrap64 (x11_2 + 1)) % 4294967296)) = true := beq_iff_eq.mpr c45
                              have c45b1 : (((rd_T37 x7_1 x11_2).f1) != ((wrap64 (x11_2 + 1)) % 4294967296)) = false := bne_eq_false_iff_eq.mpr c45
                              clear c45
                              by_cases c46 : x12_3 = true
                              · subst c46
                                have H1 : (consortlaw10_StreamOrders.l1 k3 x6_1 x7_1 (wrap64 (x11_2 + 1)) x250000_1 x250001_1 x250002_1) = some true := by first | (rw [if_pos rfl] at H; done) | (rw [if_pos rfl] at H; exact H)
                                clear H
                                have H := H1
                                clear H1
                                have H' := Aside0.mk H
                                clear H
                                obtain ⟨Ao47, co47, eo47⟩ := Kd.R_slice HO_6.out
                                subst eo47
                                have p283 : 0 ≤ (x11_2 : Int) := of_decide_eq_true (by first | (with_reducible assumption) | assumption)
                                have q283 : x11_2 < (x7_1.length : Int) := of_decide_eq_true (by first | (with_reducible assumption) | assumption)
                                obtain ⟨ad283, e283, hx283_0, hx283_1, hx283_2, hx283_3, hx283_4, hx283_5⟩ := at_T37 (Kd.R_reads' HO_7.out).2.2 x11_2 p283 q283
                                cases e283
                                replace p283 := eq_true p283
                                replace q283 := eq_true q283
                                go_wp2
                                go_roundg k3
                                case measure => have := HK1.out; have := HK2.out; have := HK3.out; omega
                                case rel => exact ⟨(wrap64 (x11_2 + 1)), (by first | rfl | (simp; done) | (simp [*]; done)), H', ⟨by have := HK1.out; have := HK2.out; have := HK3.out; omega⟩, ⟨by (with_reducible repeat (first | apply Kd.R_alloc | apply Kd.R_drewN | apply Kd.R_drew)); exact HO_6.out⟩, ⟨by (with_reducible repeat (first | apply Kd.R_alloc | apply Kd.R_drewN | apply Kd.R_drew)); exact HO_7.out⟩, ⟨by repeat (first | (with_reducible first | exact HI249.out | apply IsS56.alloc | apply IsS56.drewN | apply IsS56.drew | apply IsS56.set_0 | apply IsS56.set_1 | apply IsS56.set_2) | exact HI249.out)⟩, ⟨by repeat (first | (with_reducible first | exact HB.out | apply below_alloc | apply pw_below_drewN | apply below_drew1 | refine below_set ?_ (IsS56.ge HI249.out)) | exact HB.out)⟩⟩
                              · replace c46 := Bool.eq_false_iff.mpr c46
                                subst c46
                                have H1 : (some false) = some true := by first | (rw [if_neg (show ¬ (false = true) by decide)] at H; done) | (rw [if_neg (show ¬ (false = true) by decide)] at H; exact H)
                                clear H
                                have H := H1
                                clear H1
                                exact absurd H (by simp)
                            · rw [if_neg c45] at H
                              have c45b0 : (((rd_T37 x7_1 x11_2).f1) == ((wrap64 (x11_2 + 1)) % 4294967296)) = false := beq_eq_false_iff_ne.mpr c45
                              have c45b1 : (((rd_T37 x7_1 x11_2).f1) != ((wrap64 (x11_2 + 1)) % 4294967296)) = true := bne_iff_ne.mpr c45
                              exact absurd H (by simp)
                          · rw [if_neg c44] at H
                            exact absurd H (by simp)
                        · rw [if_neg c43] at H
                          exact absurd H (by simp)
                · rw [if_neg c30] at H
                  have c30b0 : decide (x11_2 < (x7_1.length : Int)) = false := decide_eq_false c30
                  clear c30
                  replace H := Option.bind_eq_some_iff.mp H
                  obtain ⟨⟨t268, t269, t270, t271⟩, A480, H⟩ := H
                  replace H : (if (wrap64 (t268)) = (x7_1.length : Int) then ((stream_Held.f t269 t270 t271).bind fun bt272 => (if (x6_1.length : Int) = (wrap64 ((x7_1.length : Int) + bt272.1)) then ((stream_Held.f bt272.2.1 bt272.2.2.1 bt272.2.2.2).bind fun bt276 => (some (decide (bt276.1 ≤ 63)))) else (some false))) else (some false)) = some true := H
                  have A48 := Aside0.mk A480
                  clear A480
                  by_cases c49 : (wrap64 (t268)) = (x7_1.length : Int)
                  · rw [if_pos c49] at H
                    have c49b0 : ((wrap64 (t268)) == (x7_1.length : Int)) = true := beq_iff_eq.mpr c49
                    have c49b1 : ((wrap64 (t268)) != (x7_1.length : Int)) = false := bne_eq_false_iff_eq.mpr c49
                    clear c49
                    replace H := Option.bind_eq_some_iff.mp H
                    obtain ⟨⟨t272, t273, t274, t275⟩, A500, H⟩ := H
                    replace H : (if (x6_1.length : Int) = (wrap64 ((x7_1.length : Int) + t272)) then ((stream_Held.f t273 t274 t275).bind fun bt276 => (some (decide (bt276.1 ≤ 63)))) else (some false)) = some true := H
                    have A50 := Aside0.mk A500
                    clear A500
                    by_cases c51 : (x6_1.length : Int) = (wrap64 ((x7_1.length : Int) + t272))
                    · rw [if_pos c51] at H
                      have c51b0 : ((x6_1.length : Int) == (wrap64 ((x7_1.length : Int) + t272))) = true := beq_iff_eq.mpr c51
                      have c51b1 : ((x6_1.length : Int) != (wrap64 ((x7_1.length : Int) + t272))) = false := bne_eq_false_iff_eq.mpr c51
                      clear c51
                      replace H := Option.bind_eq_some_iff.mp H
                      obtain ⟨⟨t276, t277, t278, t279⟩, A520, H⟩ := H
                      replace H : (some (decide (t276 ≤ 63))) = some true := H
                      have A52 := Aside0.mk A520
                      clear A520
                      have hres_ : (decide (t276 ≤ 63)) = true := Option.some.inj H
                      obtain ⟨Ao53, co53, eo53⟩ := Kd.R_slice HO_7.out
                      subst eo53
                      go_wp2_with (first | ((with_reducible refine gate_callee (f := 16) rfl ?_); refine goesL_ (some 93) rfl rfl Try.func16 (by kernel_rfl) rfl #[.pointer (some ⟨g249, 0, none⟩)] rfl (by (try simp only [List.map_toArray, List.map_cons, List.map_nil]); first | done | rfl | (simp only [List.length_drop, List.length_take]; rfl)) ?_; (with_reducible refine (stream_Count.calls g249 x250000_1 x250001_1 x250002_1 t268 t269 t270 t271 w _ ?side1 ?side2 A48.out).mono ?_); (case side1 => repeat (first | (with_reducible first | exact HI249.out | apply IsS56.alloc | apply IsS56.drewN | apply IsS56.drew | apply IsS56.set_0 | apply IsS56.set_1 | apply IsS56.set_2) | exact HI249.out)); (case side2 => repeat (first | (with_reducible first | exact HB.out | apply below_alloc | apply pw_below_drewN | apply below_drew1 | refine below_set ?_ (IsS56.ge HI249.out)) | exact HB.out)); rintro e w54 ⟨rfl, hi, hb, hk⟩; refine ⟨_, rfl, ?_⟩; have n0_ := Aside0.mk (Kd.R_mono (Kd.R_keep (IsS56.apart (show IsS56 w _ g249 x250000_1 x250001_1 x250002_1 from by repeat (first | (with_reducible first | exact HI249.out | apply IsS56.alloc | apply IsS56.drewN | apply IsS56.drew | apply IsS56.set_0 | apply IsS56.set_1 | apply IsS56.set_2) | exact HI249.out)) (by (with_reducible repeat (first | apply Kd.R_alloc | apply Kd.R_drewN | apply Kd.R_drew)); exact HO_6.out) (by first | decide | exact Nat.succ_pos _ | exact ne_of_E rfl (by decide))) hk (fun _ h => h.2)) (fun _ h => h.1)); have n1_ := Aside0.mk (Kd.R_mono (Kd.R_keep (IsS56.apart (show IsS56 w _ g249 x250000_1 x250001_1 x250002_1 from by repeat (first | (with_reducible first | exact HI249.out | apply IsS56.alloc | apply IsS56.drewN | apply IsS56.drew | apply IsS56.set_0 | apply IsS56.set_1 | apply IsS56.set_2) | exact HI249.out)) (by (with_reducible repeat (first | apply Kd.R_alloc | apply Kd.R_drewN | apply Kd.R_drew)); exact HO_7.out) (by first | decide | exact Nat.succ_pos _ | exact ne_of_E rfl (by decide))) hk (fun _ h => h.2)) (fun _ h => h.1)); have n2_ := Aside0.mk (hb); have n3_ := Aside0.mk (hi); clear HO_6; clear HO_7; clear HB; clear HI249; have HO_6 := n0_; have HO_7 := n1_; have HB := n2_; have HI249 := n3_; clear n0_ n1_ n2_ n3_; (try clear hb); (try clear hb2); (try clear hk); (try clear hi); obtain ⟨Ao55, co55, eo55⟩ := Kd.R_slice HO_6.out; subst eo55) | (go_at_call 17; (with_reducible refine (stream_Held.calls g249 t269 t270 t271 t272 t273 t274 t275 w _ ?side1 ?side2 A50.out).mono ?_); (case side1 => repeat (first | (with_reducible first | exact HI249.out | apply IsS56.alloc | apply IsS56.drewN | apply IsS56.drew | apply IsS56.set_0 | apply IsS56.set_1 | apply IsS56.set_2) | exact HI249.out)); (case side2 => repeat (first | (with_reducible first | exact HB.out | apply below_alloc | apply pw_below_drewN | apply below_drew1 | refine below_set ?_ (IsS56.ge HI249.out)) | exact HB.out)); rintro e w56 ⟨rfl, hi, hb, hk⟩; have n0_ := Aside0.mk (Kd.R_mono (Kd.R_keep (IsS56.apart (show IsS56 w _ g249 t269 t270 t271 from by repeat (first | (with_reducible first | exact HI249.out | apply IsS56.alloc | apply IsS56.drewN | apply IsS56.drew | apply IsS56.set_0 | apply IsS56.set_1 | apply IsS56.set_2) | exact HI249.out)) (by (with_reducible repeat (first | apply Kd.R_alloc | apply Kd.R_drewN | apply Kd.R_drew)); exact HO_6.out) (by first | decide | exact Nat.succ_pos _ | exact ne_of_E rfl (by decide))) hk (fun _ h => h.2)) (fun _ h => h.1)); have n1_ := Aside0.mk (Kd.R_mono (Kd.R_keep (IsS56.apart (show IsS56 w _ g249 t269 t270 t271 from by repeat (first | (with_reducible first | exact HI249.out | apply IsS56.alloc | apply IsS56.drewN | apply IsS56.drew | apply IsS56.set_0 | apply IsS56.set_1 | apply IsS56.set_2) | exact HI249.out)) (by (with_reducible repeat (first | apply Kd.R_alloc | apply Kd.R_drewN | apply Kd.R_drew)); exact HO_7.out) (by first | decide | exact Nat.succ_pos _ | exact ne_of_E rfl (by decide))) hk (fun _ h => h.2)) (fun _ h => h.1)); have n2_ := Aside0.mk (hb); have n3_ := Aside0.mk (hi); clear HO_6; clear HO_7; clear HB; clear HI249; have HO_6 := n0_; have HO_7 := n1_; have HB := n2_; have HI249 := n3_; clear n0_ n1_ n2_ n3_; (try clear hb); (try clear hb2); (try clear hk); (try clear hi)) | (go_at_call 17; (with_reducible refine (stream_Held.calls g249 t273 t274 t275 t276 t277 t278 t279 w _ ?side1 ?side2 A52.out).mono ?_); (case side1 => repeat (first | (with_reducible first | exact HI249.out | apply IsS56.alloc | apply IsS56.drewN | apply IsS56.drew | apply IsS56.set_0 | apply IsS56.set_1 | apply IsS56.set_2) | exact HI249.out)); (case side2 => repeat (first | (with_reducible first | exact HB.out | apply below_alloc | apply pw_below_drewN | apply below_drew1 | refine below_set ?_ (IsS56.ge HI249.out)) | exact HB.out)); rintro e w57 ⟨rfl, hi, hb, hk⟩; have n0_ := Aside0.mk (Kd.R_mono (Kd.R_keep (IsS56.apart (show IsS56 w _ g249 t273 t274 t275 from by repeat (first | (with_reducible first | exact HI249.out | apply IsS56.alloc | apply IsS56.drewN | apply IsS56.drew | apply IsS56.set_0 | apply IsS56.set_1 | apply IsS56.set_2) | exact HI249.out)) (by (with_reducible repeat (first | apply Kd.R_alloc | apply Kd.R_drewN | apply Kd.R_drew)); exact HO_6.out) (by first | decide | exact Nat.succ_pos _ | exact ne_of_E rfl (by decide))) hk (fun _ h => h.2)) (fun _ h => h.1)); have n1_ := Aside0.mk (Kd.R_mono (Kd.R_keep (IsS56.apart (show IsS56 w _ g249 t273 t274 t275 from by repeat (first | (with_reducible first | exact HI249.out | apply IsS56.alloc | apply IsS56.drewN | apply IsS56.drew | apply IsS56.set_0 | apply IsS56.set_1 | apply IsS56.set_2) | exact HI249.out)) (by (with_reducible repeat (first | apply Kd.R_alloc | apply Kd.R_drewN | apply Kd.R_drew)); exact HO_7.out) (by first | decide | exact Nat.succ_pos _ | exact ne_of_E rfl (by decide))) hk (fun _ h => h.2)) (fun _ h => h.1)); have n2_ := Aside0.mk (hb); have n3_ := Aside0.mk (hi); clear HO_6; clear HO_7; clear HB; clear HI249; have HO_6 := n0_; have HO_7 := n1_; have HB := n2_; have HI249 := n3_; clear n0_ n1_ n2_ n3_; (try clear hb); (try clear hb2); (try clear hk); (try clear hi)))
                      go_ret
                      exact ⟨by first | rfl | (simp [errW_none, errW_some] <;> rfl) | (simp [*, errW_none, errW_some] <;> rfl), by repeat (first | (with_reducible first | exact HB.out | apply below_alloc | apply pw_below_drewN | apply below_drew1 | refine below_set ?_ (IsS56.ge HI249.out)) | exact HB.out)⟩
                    · rw [if_neg c51] at H
                      have c51b0 : ((x6_1.length : Int) == (wrap64 ((x7_1.length : Int) + t272))) = false := beq_eq_false_iff_ne.mpr c51
                      have c51b1 : ((x6_1.length : Int) != (wrap64 ((x7_1.length : Int) + t272))) = true := bne_iff_ne.mpr c51
                      exact absurd H (by simp)
                  · rw [if_neg c49] at H
                    have c49b0 : ((wrap64 (t268)) == (x7_1.length : Int)) = false := beq_eq_false_iff_ne.mpr c49
                    have c49b1 : ((wrap64 (t268)) != (x7_1.length : Int)) = true := bne_iff_ne.mpr c49
                    exact absurd H (by simp)
    · replace c6 := Bool.eq_false_iff.mpr c6
      subst c6
      have H1 : (some true) = some true := by first | (rw [if_neg (show ¬ (false = true) by decide)] at H; done) | (rw [if_neg (show ¬ (false = true) by decide)] at H; exact H)
      clear H
      have H := H1
      clear H1
      clear H
      go_enter Try.func4, Try.ntmps4
      go_wp2_with (first | ((with_reducible refine gate_callee (f := 7) rfl ?_); refine goesL_ (some 14) rfl rfl Try.func7 (by kernel_rfl) rfl #[] rfl (by (try simp only [List.map_toArray, List.map_cons, List.map_nil]); first | done | rfl | (simp only [List.length_drop, List.length_take]; rfl)) ?_; (with_reducible refine (consortlaw10_awake.calls  true _ A3.out).mono ?_); rintro e w58 ⟨rfl, hb⟩; refine ⟨_, rfl, ?_⟩; have n0_ := Aside0.mk (below_step (by repeat (first | (with_reducible first | exact HB.out | apply below_alloc | apply pw_below_drewN | apply below_drew1) | exact HB.out)) hb); clear HB; have HB := n0_; clear n0_; (try clear hb); (try clear hb2); (try clear hk); (try clear hi)) | ((with_reducible refine gate_callee (f := 8) rfl ?_); refine goesL_ (some 17) rfl rfl Try.func8 (by kernel_rfl) rfl #[.slice A1 l1.length c1] rfl (by (try simp only [List.map_toArray, List.map_cons, List.map_nil]); first | done | rfl | (simp only [List.length_drop, List.length_take]; rfl)) ?_; (with_reducible refine (consortlaw03_Few.calls k _ _ l1 false _ ?side1 ?side2 A5.out).mono ?_); (case side1 => repeat (first | exact (Kd.C_below HR1.out HB.out) | (with_reducible refine Kd.C_alloc ?_ _) | (with_reducible refine Kd.C_drewN ?_ _) | (with_reducible refine Kd.C_drew ?_))); (case side2 => exact HC1.out); rintro e w59 ⟨rfl, hb⟩; refine ⟨_, rfl, ?_⟩; have n0_ := Aside0.mk (below_step (by repeat (first | (with_reducible first | exact HB.out | apply below_alloc | apply pw_below_drewN | apply below_drew1) | exact HB.out)) hb); clear HB; have HB := n0_; clear n0_; (try clear hb); (try clear hb2); (try clear hk); (try clear hi)))
      go_ret
      exact ⟨by first | rfl | (simp [errW_none, errW_some] <;> rfl) | (simp [*, errW_none, errW_some] <;> rfl), by repeat (first | (with_reducible first | exact HB.out | apply below_alloc | apply pw_below_drewN | apply below_drew1) | exact HB.out)⟩
  · replace c4 := Bool.eq_false_iff.mpr c4
    subst c4
    have H1 : (some false) = some true := by first | (rw [if_neg (show ¬ (false = true) by decide)] at H; done) | (rw [if_neg (show ¬ (false = true) by decide)] at H; exact H)
    clear H
    have H := H1
    clear H1
    exact absurd H (by simp)

end Go.Proofs.Ytmedahgbmebegaa.P
