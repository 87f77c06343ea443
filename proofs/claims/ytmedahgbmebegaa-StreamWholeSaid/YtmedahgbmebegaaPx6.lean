-- Written by our own program (wip/pr) over the kit's print.py, with contracts of our own.
import Derived.Test.YtmedahgbmebegaaPx0
import Derived.Test.YtmedahgbmebegaaPx1
import Derived.Test.YtmedahgbmebegaaHandT
namespace Go.Proofs.Ytmedahgbmebegaa.P
open Go.Proofs.YtmedahgbmebegaaOv
open Go.RowKit Go.Proofs.YtmedahgbmebegaaW.PrintWords Go.Proofs.YtmedahgbmebegaaW.PrintLast Go.Proofs.YtmedahgbmebegaaW.PrintMore
attribute [local go_sem] max2_int min2_int max_two min_two max_three min_three max_four min_four   -- for this text's walks alone
set_option linter.unusedVariables false
set_option linter.unusedSimpArgs false
set_option linter.unusedSectionVars false
variable [TheW]

/-! ### consortlaw10_StreamWhole: function 5 -/
mutual
def consortlaw10_StreamWhole.j0 : Nat → Int → List Int → Bool → Option (Bool)
  | 0, _, _, _ => none
  | k + 1, x0, x1, x26 => if x26 = true then (some true) else (consortlaw10_StreamWhole.l0 k x0 x1 ([] : List Int) 0)
def consortlaw10_StreamWhole.l0 : Nat → Int → List Int → List Int → Int → Option (Bool)
  | 0, _, _, _, _ => none
  | k + 1, x0, x1, x5, x6 => if x6 < x0 then (if x5.length < 35184372088832 then (consortlaw10_StreamWhole.l0 k x0 x1 (x5 ++ [(wrap64 (x6 + 1)) % 4294967296]) (wrap64 (x6 + 1))) else (none)) else ((stream_New.f 64).bind fun bt288 => (consortlaw10_StreamWhole.l1 k x0 x1 x5 ([] : List (S37)) 0 bt288.1 bt288.2.1 bt288.2.2))
def consortlaw10_StreamWhole.l1 : Nat → Int → List Int → List Int → List (S37) → Int → Int → Int → (List (Int × S37)) → Option (Bool)
  | 0, _, _, _, _, _, _, _, _ => none
  | k + 1, x0, x1, x5, x8, x9, x292000, x292001, x292002 => if (x5.length : Int) > 0 then (if x9 < (x1.length : Int) then (if 0 ≤ x9 then (if (x5.length : Int) = 0 then (none) else (if 0 ≤ (Int.tmod (wrap64 (rd x1 x9)) (x5.length : Int)) then (if (Int.tmod (wrap64 (rd x1 x9)) (x5.length : Int)) < (x5.length : Int) then ((stream_Take.f x292000 x292001 x292002 0 (rd x5 (Int.tmod (wrap64 (rd x1 x9)) (x5.length : Int))) 0 0 OV.nil (⟨#[]⟩ : ByteArray)).bind fun bt294 => (if bt294.2.1 = 0 then (if x8.length + bt294.1.length < 1954687338268 then ((some (([] : List Int) : List Int)).bind fun y304 => (if (Int.tmod (wrap64 (rd x1 x9)) (x5.length : Int)) ≤ (x5.length : Int) then ((some (x5.take ((Int.tmod (wrap64 (rd x1 x9)) (x5.length : Int)) : Int).toNat : List Int)).bind fun y307 => (if y304.length + y307.length < 35184372088832 then ((some (y304 ++ y307 : List Int)).bind fun y311 => (if 0 ≤ (wrap64 ((Int.tmod (wrap64 (rd x1 x9)) (x5.length : Int)) + 1)) then (if (wrap64 ((Int.tmod (wrap64 (rd x1 x9)) (x5.length : Int)) + 1)) ≤ (x5.length : Int) then ((some (x5.drop ((wrap64 ((Int.tmod (wrap64 (rd x1 x9)) (x5.length : Int)) + 1)) : Int).toNat : List Int)).bind fun y314 => (if y311.length + y314.length < 35184372088832 then (consortlaw10_StreamWhole.l1 k x0 x1 (y311 ++ y314) (x8 ++ bt294.1) (wrap64 (x9 + 1)) bt294.2.2.1 bt294.2.2.2.1 bt294.2.2.2.2) else (none))) else (none)) else (none))) else (none))) else (none))) else (none)) else (some false))) else (none)) else (none))) else (none)) else (if 0 < (x5.length : Int) then ((stream_Take.f x292000 x292001 x292002 0 (rd x5 0) 0 0 OV.nil (⟨#[]⟩ : ByteArray)).bind fun bt322 => (if bt322.2.1 = 0 then (if x8.length + bt322.1.length < 1954687338268 then ((some (([] : List Int) : List Int)).bind fun y332 => (if 0 ≤ (x5.length : Int) then ((some (x5.take 0 : List Int)).bind fun y335 => (if y332.length + y335.length < 35184372088832 then ((some (y332 ++ y335 : List Int)).bind fun y339 => (if 0 ≤ (wrap64 1) then (if (wrap64 1) ≤ (x5.length : Int) then ((some (x5.drop ((wrap64 1) : Int).toNat : List Int)).bind fun y342 => (if y339.length + y342.length < 35184372088832 then (consortlaw10_StreamWhole.l1 k x0 x1 (y339 ++ y342) (x8 ++ bt322.1) (wrap64 (x9 + 1)) bt322.2.2.1 bt322.2.2.2.1 bt322.2.2.2.2) else (none))) else (none)) else (none))) else (none))) else (none))) else (none)) else (some false))) else (none))) else (consortlaw10_StreamWhole.l2 k x0 x8 0 x292000 x292001 x292002)
def consortlaw10_StreamWhole.l2 : Nat → Int → List (S37) → Int → Int → Int → (List (Int × S37)) → Option (Bool)
  | 0, _, _, _, _, _, _ => none
  | k + 1, x0, x8, x13, x292000, x292001, x292002 => if x13 < (x8.length : Int) then (if 0 ≤ x13 then (if ((rd_T37 x8 x13).f1) = ((wrap64 (x13 + 1)) % 4294967296) then (consortlaw10_StreamWhole.l2 k x0 x8 (wrap64 (x13 + 1)) x292000 x292001 x292002) else (some false)) else (none)) else (if (x8.length : Int) = x0 then ((stream_Held.f x292000 x292001 x292002).bind fun bt350 => (if bt350.1 = 0 then ((stream_Count.f bt350.2.1 bt350.2.2.1 bt350.2.2.2).bind fun bt354 => (some ((wrap64 (bt354.1)) == x0))) else (some false))) else (some false))
end
def consortlaw10_StreamWhole.f (k : Nat) (a0 : Int) (l1 : List Int) : Option (Bool) := (consortlaw10_awake.f).bind fun t284 => (if t284 = true then (if a0 < 0 then (consortlaw10_StreamWhole.j0 k a0 l1 true) else (if a0 > 64 then (consortlaw10_StreamWhole.j0 k a0 l1 true) else (consortlaw10_StreamWhole.j0 k a0 l1 (decide ((l1.length : Int) > 200))))) else (some false))
theorem consortlaw10_StreamWhole.mono_l : ∀ k, (∀ y0 y1 y2, LeO (consortlaw10_StreamWhole.j0 k y0 y1 y2) (consortlaw10_StreamWhole.j0 (k + 1) y0 y1 y2)) ∧ (∀ y0 y1 y2 y3, LeO (consortlaw10_StreamWhole.l0 k y0 y1 y2 y3) (consortlaw10_StreamWhole.l0 (k + 1) y0 y1 y2 y3)) ∧ (∀ y0 y1 y2 y3 y4 y5 y6 y7, LeO (consortlaw10_StreamWhole.l1 k y0 y1 y2 y3 y4 y5 y6 y7) (consortlaw10_StreamWhole.l1 (k + 1) y0 y1 y2 y3 y4 y5 y6 y7)) ∧ (∀ y0 y1 y2 y3 y4 y5, LeO (consortlaw10_StreamWhole.l2 k y0 y1 y2 y3 y4 y5) (consortlaw10_StreamWhole.l2 (k + 1) y0 y1 y2 y3 y4 y5))
  | 0 => ⟨fun _ _ _ r h => by simp [consortlaw10_StreamWhole.j0] at h, fun _ _ _ _ r h => by simp [consortlaw10_StreamWhole.l0] at h, fun _ _ _ _ _ _ _ _ r h => by simp [consortlaw10_StreamWhole.l1] at h, fun _ _ _ _ _ _ r h => by simp [consortlaw10_StreamWhole.l2] at h⟩
  | k + 1 => by
    obtain ⟨ih0, ih1, ih2, ih3⟩ := consortlaw10_StreamWhole.mono_l k
    refine ⟨?_, ?_, ?_, ?_⟩
    · intro y0 y1 y2
      unfold consortlaw10_StreamWhole.j0
      repeat' first
      | (with_reducible exact ih0 _ _ _)
      | (with_reducible exact ih1 _ _ _ _)
      | (with_reducible exact ih2 _ _ _ _ _ _ _ _)
      | (with_reducible exact ih3 _ _ _ _ _ _)
      | (with_reducible exact LeO.refl _)
      | (with_reducible exact LeO.none _)
      | (with_reducible refine LeO.ite ?_ ?_)
      | (with_reducible refine LeO.bind ?_ (fun _ => ?_))
      | exact ih0 _ _ _
      | exact ih1 _ _ _ _
      | exact ih2 _ _ _ _ _ _ _ _
      | exact ih3 _ _ _ _ _ _
      | exact LeO.none _
      | refine LeO.ite ?_ ?_
      | refine LeO.bind ?_ (fun _ => ?_)
    · intro y0 y1 y2 y3
      unfold consortlaw10_StreamWhole.l0
      repeat' first
      | (with_reducible exact ih0 _ _ _)
      | (with_reducible exact ih1 _ _ _ _)
      | (with_reducible exact ih2 _ _ _ _ _ _ _ _)
      | (with_reducible exact ih3 _ _ _ _ _ _)
      | (with_reducible exact LeO.refl _)
      | (with_reducible exact LeO.none _)
      | (with_reducible refine LeO.ite ?_ ?_)
      | (with_reducible refine LeO.bind ?_ (fun _ => ?_))
      | exact ih0 _ _ _
      | exact ih1 _ _ _ _
      | exact ih2 _ _ _ _ _ _ _ _
      | exact ih3 _ _ _ _ _ _
      | exact LeO.none _
      | refine LeO.ite ?_ ?_
      | refine LeO.bind ?_ (fun _ => ?_)
    · intro y0 y1 y2 y3 y4 y5 y6 y7
      unfold consortlaw10_StreamWhole.l1
      repeat' first
      | (with_reducible exact ih0 _ _ _)
      | (with_reducible exact ih1 _ _ _ _)
      | (with_reducible exact ih2 _ _ _ _ _ _ _ _)
      | (with_reducible exact ih3 _ _ _ _ _ _)
      | (with_reducible exact LeO.refl _)
      | (with_reducible exact LeO.none _)
      | (with_reducible refine LeO.ite ?_ ?_)
      | (with_reducible refine LeO.bind ?_ (fun _ => ?_))
      | exact ih0 _ _ _
      | exact ih1 _ _ _ _
      | exact ih2 _ _ _ _ _ _ _ _
      | exact ih3 _ _ _ _ _ _
      | exact LeO.none _
      | refine LeO.ite ?_ ?_
      | refine LeO.bind ?_ (fun _ => ?_)
    · intro y0 y1 y2 y3 y4 y5
      unfold consortlaw10_StreamWhole.l2
      repeat' first
      | (with_reducible exact ih0 _ _ _)
      | (with_reducible exact ih1 _ _ _ _)
      | (with_reducible exact ih2 _ _ _ _ _ _ _ _)
      | (with_reducible exact ih3 _ _ _ _ _ _)
      | (with_reducible exact LeO.refl _)
      | (with_reducible exact LeO.none _)
      | (with_reducible refine LeO.ite ?_ ?_)
      | (with_reducible refine LeO.bind ?_ (fun _ => ?_))
      | exact ih0 _ _ _
      | exact ih1 _ _ _ _
      | exact ih2 _ _ _ _ _ _ _ _
      | exact ih3 _ _ _ _ _ _
      | exact LeO.none _
      | refine LeO.ite ?_ ?_
      | refine LeO.bind ?_ (fun _ => ?_)
theorem consortlaw10_StreamWhole.mono : ∀ a0 a1 k, LeO (consortlaw10_StreamWhole.f k a0 a1) (consortlaw10_StreamWhole.f (k + 1) a0 a1) := by
  intro a0 a1 k
  obtain ⟨ih0, ih1, ih2, ih3⟩ := consortlaw10_StreamWhole.mono_l k
  unfold consortlaw10_StreamWhole.f
  repeat' first
      | (with_reducible exact ih0 _ _ _)
      | (with_reducible exact ih1 _ _ _ _)
      | (with_reducible exact ih2 _ _ _ _ _ _ _ _)
      | (with_reducible exact ih3 _ _ _ _ _ _)
      | (with_reducible exact LeO.refl _)
      | (with_reducible exact LeO.none _)
      | (with_reducible refine LeO.ite ?_ ?_)
      | (with_reducible refine LeO.bind ?_ (fun _ => ?_))
      | exact ih0 _ _ _
      | exact ih1 _ _ _ _
      | exact ih2 _ _ _ _ _ _ _ _
      | exact ih3 _ _ _ _ _ _
      | exact LeO.none _
      | refine LeO.ite ?_ ?_
      | refine LeO.bind ?_ (fun _ => ?_)
def consortlaw10_StreamWhole.T22 : Bool × List (List Nat × List Nat) := (true, [([], []), ([], []), ([], []), ([1, 2], [1, 2]), ([0, 3], [0, 3]), ([], []), ([], []), ([6], [6]), ([5, 7], [5, 7]), ([4, 8, 4], [4, 8]), ([9, 9, 0, 1, 2, 3, 4, 5, 6, 7, 8, 9], [1, 5, 9])])
def consortlaw10_StreamWhole.B22 : List Nat := [0, 0, 0, 6, 15, 0, 0, 64, 224, 511, 1023]
theorem consortlaw10_StreamWhole.tab22 : rtab .any (opsOf Try.f5 22) = consortlaw10_StreamWhole.T22 := by kernel_rfl
theorem consortlaw10_StreamWhole.bits22 : waitsOk consortlaw10_StreamWhole.T22.2 consortlaw10_StreamWhole.B22 = true := by kernel_rfl
set_option maxHeartbeats 8000000 in
set_option maxRecDepth 100000 in
theorem consortlaw10_StreamWhole.calls (k : Nat) (a0 : Int) (A1 : Option Addr) (c1 : Nat) (l1 : List Int) (w : World) (hr1 : Kd.C (Kd.int .u16) w A1 l1.length l1) (hc1 : l1.length ≤ c1) (h : consortlaw10_StreamWhole.f k a0 l1 = some true) :
    Calls Try.prog 5 #[.int .i64 a0, .slice A1 l1.length c1] w fun e w' => e = .returned (.bool true) ∧ Below w.heap.size w w' := by
  have hu37 := Try.underlying37
  have HR1 := Aside0.mk hr1
  have HC1 := Aside0.mk hc1
  clear hr1 hc1
  have HB := Aside0.mk (Below.refl w.heap.size w)
  have H : ((consortlaw10_awake.f).bind fun t284 => (if t284 = true then (if a0 < 0 then (consortlaw10_StreamWhole.j0 k a0 l1 true) else (if a0 > 64 then (consortlaw10_StreamWhole.j0 k a0 l1 true) else (consortlaw10_StreamWhole.j0 k a0 l1 (decide ((l1.length : Int) > 200))))) else (some false))) = some true := h
  clear h
  replace H := Option.bind_eq_some_iff.mp H
  obtain ⟨t284, A30, H⟩ := H
  replace H : (if t284 = true then (if a0 < 0 then (consortlaw10_StreamWhole.j0 k a0 l1 true) else (if a0 > 64 then (consortlaw10_StreamWhole.j0 k a0 l1 true) else (consortlaw10_StreamWhole.j0 k a0 l1 (decide ((l1.length : Int) > 200))))) else (some false)) = some true := H
  have A3 := Aside0.mk A30
  clear A30
  by_cases c4 : t284 = true
  · subst c4
    have H1 : (if a0 < 0 then (consortlaw10_StreamWhole.j0 k a0 l1 true) else (if a0 > 64 then (consortlaw10_StreamWhole.j0 k a0 l1 true) else (consortlaw10_StreamWhole.j0 k a0 l1 (decide ((l1.length : Int) > 200))))) = some true := by first | (rw [if_pos rfl] at H; done) | (rw [if_pos rfl] at H; exact H)
    clear H
    have H := H1
    clear H1
    have HC5 := Aside0.mk H
    clear H
    go_enter Try.func5, Try.ntmps5
    go_upto_region 3 with (first | ((with_reducible refine gate_callee (f := 7) rfl ?_); refine goesL_ (some 14) rfl rfl Try.func7 (by kernel_rfl) rfl #[] rfl (by (try simp only [List.map_toArray, List.map_cons, List.map_nil]); first | done | rfl | (simp only [List.length_drop, List.length_take]; rfl)) ?_; (with_reducible refine (consortlaw10_awake.calls  true _ A3.out).mono ?_); rintro e w6 ⟨rfl, hb⟩; refine ⟨_, rfl, ?_⟩; have n0_ := Aside0.mk (below_step (by repeat (first | (with_reducible first | exact HB.out | apply below_alloc | apply pw_below_drewN | apply below_drew1) | exact HB.out)) hb); clear HB; have HB := n0_; clear n0_; (try clear hb); (try clear hb2); (try clear hk); (try clear hi)))
    (try simp only [Act.put, List.setIfInBounds_toArray, List.set_cons_zero, List.set_cons_succ])
    go_cut [26] (fun v26 wc => ∃ (kq : Nat) (x26_4 : Bool), v26 = .bool x26_4 ∧ Aside0 (consortlaw10_StreamWhole.j0 kq a0 l1 x26_4 = some true) ∧ Aside0 (kq ≤ k) ∧ Aside0 (Below w.heap.size w wc))
    case first =>
      have H := HC5.out
      clear HC5
      by_cases c7 : a0 < 0
      · rw [if_pos c7] at H
        have c7b0 : decide (a0 < 0) = true := decide_eq_true c7
        clear c7
        (first | rw [c7b0] | (simp only [i64_w, i32_w]; rw [c7b0]) | skip)
        have H' := Aside0.mk H
        clear H
        go_wp2
        go_meet
        case rel => exact ⟨_, (true), (by first | rfl | (simp; done) | (simp [*]; done)), H', ⟨by first | omega | exact Nat.le_refl _⟩, ⟨by repeat (first | (with_reducible first | exact HB.out | apply below_alloc | apply pw_below_drewN | apply below_drew1) | exact HB.out)⟩⟩
      · rw [if_neg c7] at H
        have c7b0 : decide (a0 < 0) = false := decide_eq_false c7
        clear c7
        (first | rw [c7b0] | (simp only [i64_w, i32_w]; rw [c7b0]) | skip)
        by_cases c8 : a0 > 64
        · rw [if_pos c8] at H
          have c8b0 : decide (64 < a0) = true := decide_eq_true c8
          clear c8
          have H' := Aside0.mk H
          clear H
          go_wp2
          go_meet
          case rel => exact ⟨_, (true), (by first | rfl | (simp; done) | (simp [*]; done)), H', ⟨by first | omega | exact Nat.le_refl _⟩, ⟨by repeat (first | (with_reducible first | exact HB.out | apply below_alloc | apply pw_below_drewN | apply below_drew1) | exact HB.out)⟩⟩
        · rw [if_neg c8] at H
          have c8b0 : decide (64 < a0) = false := decide_eq_false c8
          clear c8
          have H' := Aside0.mk H
          clear H
          go_wp2
          go_meet
          case rel => exact ⟨_, (decide ((l1.length : Int) > 200)), (by first | rfl | (simp; done) | (simp [*]; done)), H', ⟨by first | omega | exact Nat.le_refl _⟩, ⟨by repeat (first | (with_reducible first | exact HB.out | apply below_alloc | apply pw_below_drewN | apply below_drew1) | exact HB.out)⟩⟩
    case rest =>
      clear HC5
      try clear c1
      try clear p2
      try clear c4
      try clear c5
      try clear c7
      try clear c7b0
      try clear c8
      try clear c8b0
      obtain ⟨kq, x26_4, rfl, HA, HJ4, HB⟩ := hcut
      cases kq with
      | zero => exact absurd HA.out (by simp [consortlaw10_StreamWhole.j0])
      | succ kj4 =>
        have H := HA.out
        clear HA
        simp only [consortlaw10_StreamWhole.j0] at H
        by_cases c9 : x26_4 = true
        · subst c9
          have H1 : (some true) = some true := by first | (rw [if_pos rfl] at H; done) | (rw [if_pos rfl] at H; exact H)
          clear H
          have H := H1
          clear H1
          clear H
          go_wp2
          go_ret
          exact ⟨by first | rfl | (simp [errW_none, errW_some] <;> rfl) | (simp [*, errW_none, errW_some] <;> rfl), by repeat (first | (with_reducible first | exact HB.out | apply below_alloc | apply pw_below_drewN | apply below_drew1) | exact HB.out)⟩
        · replace c9 := Bool.eq_false_iff.mpr c9
          subst c9
          have H1 : (consortlaw10_StreamWhole.l0 kj4 a0 l1 ([] : List Int) 0) = some true := by first | (rw [if_neg (show ¬ (false = true) by decide)] at H; done) | (rw [if_neg (show ¬ (false = true) by decide)] at H; exact H)
          clear H
          have H := H1
          clear H1
          have H' := Aside0.mk H
          clear H
          go_wp2
          go_loopg [5, 6] kj4 (fun kq v5 v6 w' => ∃ (x5_2 : List Int) (x6_2 : Int), v6 = .int .i64 x6_2 ∧ Aside0 (consortlaw10_StreamWhole.l0 kq a0 l1 x5_2 x6_2 = some true) ∧ Aside0 (kq ≤ kj4) ∧ Aside0 (Kd.R (Kd.int .u32) 23 w' w.heap.size (fun _ => True) v5 x5_2) ∧ Aside0 (Below w.heap.size w w'))
          case atStart => exact ⟨(([] : List Int)), (0), (by first | rfl | (simp; done) | (simp [*]; done)), H', ⟨Nat.le_refl _⟩, ⟨by first | exact Kd.R_nil _ _ _ _ _ | exact Kd.N_nil _ _ _ _ _ | exact Kd.V_nil _ _ _ _ _ | exact Kd.Q_nil _ _ _ _ _ | exact Kd.S_nil _ _ _ _ _⟩, ⟨by repeat (first | (with_reducible first | exact HB.out | apply below_alloc | apply pw_below_drewN | apply below_drew1) | exact HB.out)⟩⟩
          case round =>
            clear H'
            try clear c1
            try clear p2
            try clear c4
            try clear c5
            try clear c7
            try clear c7b0
            try clear c8
            try clear c8b0
            try clear c9
            try clear p2
            obtain ⟨x5_2, x6_2, rfl, HA, HK2, HO_5, HB⟩ := hrel
            cases gk with
            | zero => exact absurd HA.out (by simp [consortlaw10_StreamWhole.l0])
            | succ k2 =>
              have H := HA.out
              clear HA
              simp only [consortlaw10_StreamWhole.l0] at H
              by_cases c10 : x6_2 < a0
              · rw [if_pos c10] at H
                have c10b0 : decide (x6_2 < a0) = true := decide_eq_true c10
                clear c10
                by_cases c11 : x5_2.length < 35184372088832
                · rw [if_pos c11] at H
                  have LMc11 := Aside0.mk c11
                  clear c11
                  obtain ⟨y285, hy285⟩ : ∃ y_ : List Int, y_ = (x5_2 ++ [(wrap64 (x6_2 + 1)) % 4294967296]) := ⟨_, rfl⟩
                  replace H : (consortlaw10_StreamWhole.l0 k2 a0 l1 y285 (wrap64 (x6_2 + 1))) = some true := by first | (rw [hy285]; with_reducible exact H) | (have H2_ := (Option.bind_some _ _).symm.trans H; rw [hy285]; with_reducible exact H2_) | (have H2_ := (Option.bind_some _ _).symm.trans H; with_reducible exact H2_) | with_reducible exact H | (rw [hy285]; exact H) | exact H
                  have Ny285 := Aside0.mk hy285
                  clear hy285
                  have H' := Aside0.mk H
                  clear H
                  go_wp2_with (first | ((with_reducible refine gate_builtin (b := .append) (xs := #[.tmp 32, .tmp 36]) rfl ?_); (try (refine gate_guard (by rfl) ?_; dsimp only)); at_builtin; refine Kd.R_append (Kd.int .u32) (w0 := w) w.heap.size rfl (.tmp 32) (.tmp 36) 35 23 (.int .u32 0) 4 rfl Try.underlying35 info23 rfl (by first | decide | exact Nat.succ_pos _ | exact ne_of_E rfl (by decide)) (by omega) u5 x5_2 ((wrap64 (x6_2 + 1)) % 4294967296) [.int .u32 ((wrap64 (x6_2 + 1)) % 4294967296)] (fun _ => True) (fun _ => False) rfl rfl ?aP (fun _ hk => hk.elim) ?aF ?aO ?aB ?aS ?aL ?_; (case aP => exact rfl); (case aB => exact (by repeat (first | (with_reducible first | exact HB.out | apply below_alloc | apply pw_below_drewN | apply below_drew1) | exact HB.out))); (case aF => exact (fun _ _ => trivial)); (case aO => exact (by (with_reducible repeat (first | apply Kd.R_alloc | apply Kd.R_drewN | apply Kd.R_drew)); exact HO_5.out)); (case aS => exact (below_size (by repeat (first | (with_reducible first | exact HB.out | apply below_alloc | apply pw_below_drewN | apply below_drew1) | exact HB.out)))); (case aL => have := LMc11.out; omega); intro v286 w12 ho hb hg hat; rw [← Ny285.out] at ho; have n0_ := Aside0.mk (hb); have n1_ := Aside0.mk (ho); clear HB; clear HO_5; have HB := n0_; have HO287 := n1_; clear n0_ n1_; clear ho hb hg hat))
                  go_roundg k2
                  case measure => have := HJ4.out; have := HK2.out; omega
                  case rel => exact ⟨(y285), (wrap64 (x6_2 + 1)), (by first | rfl | (simp; done) | (simp [*]; done)), H', ⟨by have := HJ4.out; have := HK2.out; omega⟩, ⟨by (with_reducible repeat (first | apply Kd.R_alloc | apply Kd.R_drewN | apply Kd.R_drew)); exact HO287.out⟩, ⟨by repeat (first | (with_reducible first | exact HB.out | apply below_alloc | apply pw_below_drewN | apply below_drew1) | exact HB.out)⟩⟩
                · rw [if_neg c11] at H
                  exact absurd H (by simp)
              · rw [if_neg c10] at H
                have c10b0 : decide (x6_2 < a0) = false := decide_eq_false c10
                clear c10
                replace H := Option.bind_eq_some_iff.mp H
                obtain ⟨⟨t288, t289, t290⟩, A130, H⟩ := H
                replace H : (consortlaw10_StreamWhole.l1 k2 a0 l1 x5_2 ([] : List (S37)) 0 t288 t289 t290) = some true := H
                have A13 := Aside0.mk A130
                clear A130
                have H' := Aside0.mk H
                clear H
                go_wp2_with (first | ((with_reducible refine gate_callee (f := 9) rfl ?_); refine goesL_ (some 38) rfl rfl Try.func9 (by kernel_rfl) rfl #[.int .i64 64] rfl (by (try simp only [List.map_toArray, List.map_cons, List.map_nil]); first | done | rfl | (simp only [List.length_drop, List.length_take]; rfl)) ?_; (with_reducible refine (stream_New.calls 64 t288 t289 t290 w _ ?side1 A13.out).mono ?_); (case side1 => repeat (first | (with_reducible first | exact HB.out | apply below_alloc | apply pw_below_drewN | apply below_drew1) | exact HB.out)); rintro e w14 ⟨g291, rfl, hi, hb, hb2⟩; refine ⟨_, rfl, ?_⟩; have n0_ := Aside0.mk (Kd.R_below (by (with_reducible repeat (first | apply Kd.R_alloc | apply Kd.R_drewN | apply Kd.R_drew)); exact HO_5.out) hb2); have n1_ := Aside0.mk (hb); have n2_ := Aside0.mk (hi); clear HO_5; clear HB; have HO_5 := n0_; have HB := n1_; have HI291 := n2_; clear n0_ n1_ n2_; (try clear hb); (try clear hb2); (try clear hk); (try clear hi)))
                go_loopg [5, 8, 9] k2 (fun kq v5 v8 v9 w' => ∃ (x5_3 : List Int) (x8_3 : List (S37)) (x9_3 : Int) (x292000_3 : Int) (x292001_3 : Int) (x292002_3 : (List (Int × S37))), v9 = .int .i64 x9_3 ∧ Aside0 (consortlaw10_StreamWhole.l1 kq a0 l1 x5_3 x8_3 x9_3 x292000_3 x292001_3 x292002_3 = some true) ∧ Aside0 (kq ≤ k2) ∧ Aside0 (Kd.R (Kd.int .u32) 23 w' w.heap.size (fun _ => True) v5 x5_3) ∧ Aside0 (Kd.R k37 37 w' w.heap.size (fun _ => True) v8 x8_3) ∧ Aside0 (IsS56 w w' g291 x292000_3 x292001_3 x292002_3) ∧ Aside0 (Below w.heap.size w w'))
                case atStart => exact ⟨(x5_2), (([] : List (S37))), (0), (t288), (t289), (t290), (by first | rfl | (simp; done) | (simp [*]; done)), H', ⟨Nat.le_refl _⟩, ⟨by (with_reducible repeat (first | apply Kd.R_alloc | apply Kd.R_drewN | apply Kd.R_drew)); exact HO_5.out⟩, ⟨by first | exact Kd.R_nil _ _ _ _ _ | exact Kd.N_nil _ _ _ _ _ | exact Kd.V_nil _ _ _ _ _ | exact Kd.Q_nil _ _ _ _ _ | exact Kd.S_nil _ _ _ _ _⟩, ⟨by repeat (first | (with_reducible first | exact HI291.out | apply IsS56.alloc | apply IsS56.drewN | apply IsS56.drew | apply IsS56.set_0 | apply IsS56.set_1 | apply IsS56.set_2) | exact HI291.out)⟩, ⟨by repeat (first | (with_reducible first | exact HB.out | apply below_alloc | apply pw_below_drewN | apply below_drew1 | refine below_set ?_ (IsS56.ge HI291.out)) | exact HB.out)⟩⟩
                case round =>
                  clear H'
                  try clear c1
                  try clear p2
                  try clear c4
                  try clear c5
                  try clear p6
                  try clear c7
                  try clear c7b0
                  try clear c8
                  try clear c8b0
                  try clear c9
                  try clear c10
                  try clear c10b0
                  try clear c11
                  try clear p2
                  obtain ⟨x5_3, x8_3, x9_3, x292000_3, x292001_3, x292002_3, rfl, HA, HK3, HO_5, HO_8, HI291, HB⟩ := hrel
                  cases gk with
                  | zero => exact absurd HA.out (by simp [consortlaw10_StreamWhole.l1])
                  | succ k3 =>
                    have H := HA.out
                    clear HA
                    simp only [consortlaw10_StreamWhole.l1] at H
                    by_cases c15 : (x5_3.length : Int) > 0
                    · rw [if_pos c15] at H
                      have c15b0 : decide (0 < (x5_3.length : Int)) = true := decide_eq_true c15
                      have c15b1 : decide (0 < x5_3.length) = true := decide_eq_true (by omega)
                      clear c15
                      by_cases c16 : x9_3 < (l1.length : Int)
                      · rw [if_pos c16] at H
                        have c16b0 : decide (x9_3 < (l1.length : Int)) = true := decide_eq_true c16
                        clear c16
                        by_cases c17 : 0 ≤ x9_3
                        · rw [if_pos c17] at H
                          have c17b0 : decide (0 ≤ x9_3) = true := decide_eq_true c17
                          clear c17
                          by_cases c18 : (x5_3.length : Int) = 0
                          · rw [if_pos c18] at H
                            exact absurd H (by simp)
                          · rw [if_neg c18] at H
                            have c18b0 : ((x5_3.length : Int) == 0) = false := beq_eq_false_iff_ne.mpr c18
                            have c18b1 : ((x5_3.length : Int) != 0) = true := bne_iff_ne.mpr c18
                            have c18b2 : ¬ (x5_3 = []) := fun h_ => c18 (by rw [h_]; rfl)
                            obtain ⟨ji19, hji19⟩ : ∃ j_ : Int, (Int.tmod (wrap64 (rd l1 x9_3)) (x5_3.length : Int)) = j_ := ⟨_, rfl⟩
                            replace H : (if 0 ≤ (ji19) then (if (ji19) < (x5_3.length : Int) then ((stream_Take.f x292000_3 x292001_3 x292002_3 0 (rd x5_3 (ji19)) 0 0 OV.nil (⟨#[]⟩ : ByteArray)).bind fun bt294 => (if bt294.2.1 = 0 then (if x8_3.length + bt294.1.length < 1954687338268 then ((some (([] : List Int) : List Int)).bind fun y304 => (if (ji19) ≤ (x5_3.length : Int) then ((some (x5_3.take ((ji19) : Int).toNat : List Int)).bind fun y307 => (if y304.length + y307.length < 35184372088832 then ((some (y304 ++ y307 : List Int)).bind fun y311 => (if 0 ≤ (wrap64 ((ji19) + 1)) then (if (wrap64 ((ji19) + 1)) ≤ (x5_3.length : Int) then ((some (x5_3.drop ((wrap64 ((ji19) + 1)) : Int).toNat : List Int)).bind fun y314 => (if y311.length + y314.length < 35184372088832 then (consortlaw10_StreamWhole.l1 k3 a0 l1 (y311 ++ y314) (x8_3 ++ bt294.1) (wrap64 (x9_3 + 1)) bt294.2.2.1 bt294.2.2.2.1 bt294.2.2.2.2) else (none))) else (none)) else (none))) else (none))) else (none))) else (none)) else (some false))) else (none)) else (none)) = some true := by first | (rw [hji19] at H; exact H) | (simp only [hji19] at H ⊢; exact H)
                            by_cases c20 : 0 ≤ (ji19)
                            · rw [if_pos c20] at H
                              have c20b0 : decide (0 ≤ (ji19)) = true := decide_eq_true c20
                              clear c20
                              by_cases c21 : (ji19) < (x5_3.length : Int)
                              · rw [if_pos c21] at H
                                have c21b0 : decide ((ji19) < (x5_3.length : Int)) = true := decide_eq_true c21
                                clear c21
                                replace H := Option.bind_eq_some_iff.mp H
                                obtain ⟨⟨t294, t297, t298, t299, t300⟩, A220, H⟩ := H
                                replace H : (if t297 = 0 then (if x8_3.length + t294.length < 1954687338268 then ((some (([] : List Int) : List Int)).bind fun y304 => (if (ji19) ≤ (x5_3.length : Int) then ((some (x5_3.take ((ji19) : Int).toNat : List Int)).bind fun y307 => (if y304.length + y307.length < 35184372088832 then ((some (y304 ++ y307 : List Int)).bind fun y311 => (if 0 ≤ (wrap64 ((ji19) + 1)) then (if (wrap64 ((ji19) + 1)) ≤ (x5_3.length : Int) then ((some (x5_3.drop ((wrap64 ((ji19) + 1)) : Int).toNat : List Int)).bind fun y314 => (if y311.length + y314.length < 35184372088832 then (consortlaw10_StreamWhole.l1 k3 a0 l1 (y311 ++ y314) (x8_3 ++ t294) (wrap64 (x9_3 + 1)) t298 t299 t300) else (none))) else (none)) else (none))) else (none))) else (none))) else (none)) else (some false)) = some true := H
                                have A22 := Aside0.mk A220
                                clear A220
                                by_cases c23 : t297 = 0
                                · rw [if_pos c23] at H
                                  have c23b0 : (t297 == 0) = true := beq_iff_eq.mpr c23
                                  have c23b1 : (t297 != 0) = false := bne_eq_false_iff_eq.mpr c23
                                  clear c23
                                  by_cases c24 : x8_3.length + t294.length < 1954687338268
                                  · rw [if_pos c24] at H
                                    have LMc24 := Aside0.mk c24
                                    clear c24
                                    obtain ⟨y301, hy301⟩ : ∃ y_ : List (S37), y_ = (x8_3 ++ t294) := ⟨_, rfl⟩
                                    replace H : ((some (([] : List Int) : List Int)).bind fun y304 => (if (ji19) ≤ (x5_3.length : Int) then ((some (x5_3.take ((ji19) : Int).toNat : List Int)).bind fun y307 => (if y304.length + y307.length < 35184372088832 then ((some (y304 ++ y307 : List Int)).bind fun y311 => (if 0 ≤ (wrap64 ((ji19) + 1)) then (if (wrap64 ((ji19) + 1)) ≤ (x5_3.length : Int) then ((some (x5_3.drop ((wrap64 ((ji19) + 1)) : Int).toNat : List Int)).bind fun y314 => (if y311.length + y314.length < 35184372088832 then (consortlaw10_StreamWhole.l1 k3 a0 l1 (y311 ++ y314) y301 (wrap64 (x9_3 + 1)) t298 t299 t300) else (none))) else (none)) else (none))) else (none))) else (none))) = some true := by first | (rw [hy301]; with_reducible exact H) | (have H2_ := (Option.bind_some _ _).symm.trans H; rw [hy301]; with_reducible exact H2_) | (have H2_ := (Option.bind_some _ _).symm.trans H; with_reducible exact H2_) | with_reducible exact H | (rw [hy301]; exact H) | exact H
                                    have Ny301 := Aside0.mk hy301
                                    clear hy301
                                    obtain ⟨y304, hy304⟩ : ∃ y_ : List Int, y_ = (([] : List Int)) := ⟨_, rfl⟩
                                    replace H : (if (ji19) ≤ (x5_3.length : Int) then ((some (x5_3.take ((ji19) : Int).toNat : List Int)).bind fun y307 => (if y304.length + y307.length < 35184372088832 then ((some (y304 ++ y307 : List Int)).bind fun y311 => (if 0 ≤ (wrap64 ((ji19) + 1)) then (if (wrap64 ((ji19) + 1)) ≤ (x5_3.length : Int) then ((some (x5_3.drop ((wrap64 ((ji19) + 1)) : Int).toNat : List Int)).bind fun y314 => (if y311.length + y314.length < 35184372088832 then (consortlaw10_StreamWhole.l1 k3 a0 l1 (y311 ++ y314) y301 (wrap64 (x9_3 + 1)) t298 t299 t300) else (none))) else (none)) else (none))) else (none))) else (none)) = some true := by first | (rw [hy304]; with_reducible exact H) | (have H2_ := (Option.bind_some _ _).symm.trans H; rw [hy304]; with_reducible exact H2_) | (have H2_ := (Option.bind_some _ _).symm.trans H; with_reducible exact H2_) | with_reducible exact H | (rw [hy304]; exact H) | exact H
                                    have Ny304 := Aside0.mk hy304
                                    clear hy304
                                    have c25b0 := eq_true (of_decide_eq_true (by first | (with_reducible assumption) | assumption) : 0 ≤ (ji19))
                                    by_cases c26 : (ji19) ≤ (x5_3.length : Int)
                                    · rw [if_pos c26] at H
                                      have c26b0 := eq_true c26
                                      have c26b1 : decide ((ji19) ≤ (x5_3.length : Int)) = true := decide_eq_true c26
                                      clear c26
                                      obtain ⟨y307, hy307⟩ : ∃ y_ : List Int, y_ = (x5_3.take ((ji19) : Int).toNat) := ⟨_, rfl⟩
                                      replace H : (if y304.length + y307.length < 35184372088832 then ((some (y304 ++ y307 : List Int)).bind fun y311 => (if 0 ≤ (wrap64 ((ji19) + 1)) then (if (wrap64 ((ji19) + 1)) ≤ (x5_3.length : Int) then ((some (x5_3.drop ((wrap64 ((ji19) + 1)) : Int).toNat : List Int)).bind fun y314 => (if y311.length + y314.length < 35184372088832 then (consortlaw10_StreamWhole.l1 k3 a0 l1 (y311 ++ y314) y301 (wrap64 (x9_3 + 1)) t298 t299 t300) else (none))) else (none)) else (none))) else (none)) = some true := by first | (rw [hy307]; with_reducible exact H) | (have H2_ := (Option.bind_some _ _).symm.trans H; rw [hy307]; with_reducible exact H2_) | (have H2_ := (Option.bind_some _ _).symm.trans H; with_reducible exact H2_) | with_reducible exact H | (rw [hy307]; exact H) | exact H
                                      have Ny307 := Aside0.mk hy307
                                      clear hy307
                                      by_cases c27 : y304.length + y307.length < 35184372088832
                                      · rw [if_pos c27] at H
                                        have LMc27 := Aside0.mk c27
                                        clear c27
                                        obtain ⟨y311, hy311⟩ : ∃ y_ : List Int, y_ = (y304 ++ y307) := ⟨_, rfl⟩
                                        replace H : (if 0 ≤ (wrap64 ((ji19) + 1)) then (if (wrap64 ((ji19) + 1)) ≤ (x5_3.length : Int) then ((some (x5_3.drop ((wrap64 ((ji19) + 1)) : Int).toNat : List Int)).bind fun y314 => (if y311.length + y314.length < 35184372088832 then (consortlaw10_StreamWhole.l1 k3 a0 l1 (y311 ++ y314) y301 (wrap64 (x9_3 + 1)) t298 t299 t300) else (none))) else (none)) else (none)) = some true := by first | (rw [hy311]; with_reducible exact H) | (have H2_ := (Option.bind_some _ _).symm.trans H; rw [hy311]; with_reducible exact H2_) | (have H2_ := (Option.bind_some _ _).symm.trans H; with_reducible exact H2_) | with_reducible exact H | (rw [hy311]; exact H) | exact H
                                        have Ny311 := Aside0.mk hy311
                                        clear hy311
                                        obtain ⟨ji28, hji28⟩ : ∃ j_ : Int, (wrap64 ((ji19) + 1)) = j_ := ⟨_, rfl⟩
                                        replace H : (if 0 ≤ (ji28) then (if (ji28) ≤ (x5_3.length : Int) then ((some (x5_3.drop ((ji28) : Int).toNat : List Int)).bind fun y314 => (if y311.length + y314.length < 35184372088832 then (consortlaw10_StreamWhole.l1 k3 a0 l1 (y311 ++ y314) y301 (wrap64 (x9_3 + 1)) t298 t299 t300) else (none))) else (none)) else (none)) = some true := by first | (rw [hji28] at H; exact H) | (simp only [hji28] at H ⊢; exact H)
                                        (try rw [hji28] at A22)
                                        have hji28w : (IntKind.i64.wrap ((ji19) + 1)) = ji28 := (i64_w _).trans hji28
                                        by_cases c29 : 0 ≤ (ji28)
                                        · rw [if_pos c29] at H
                                          have c29b0 := eq_true c29
                                          have c29b1 : decide (0 ≤ (ji28)) = true := decide_eq_true c29
                                          clear c29
                                          by_cases c30 : (ji28) ≤ (x5_3.length : Int)
                                          · rw [if_pos c30] at H
                                            have c30b0 := eq_true c30
                                            have c30b1 : decide ((ji28) ≤ (x5_3.length : Int)) = true := decide_eq_true c30
                                            clear c30
                                            obtain ⟨y314, hy314⟩ : ∃ y_ : List Int, y_ = (x5_3.drop ((ji28) : Int).toNat) := ⟨_, rfl⟩
                                            replace H : (if y311.length + y314.length < 35184372088832 then (consortlaw10_StreamWhole.l1 k3 a0 l1 (y311 ++ y314) y301 (wrap64 (x9_3 + 1)) t298 t299 t300) else (none)) = some true := by first | (rw [hy314]; with_reducible exact H) | (have H2_ := (Option.bind_some _ _).symm.trans H; rw [hy314]; with_reducible exact H2_) | (have H2_ := (Option.bind_some _ _).symm.trans H; with_reducible exact H2_) | with_reducible exact H | (rw [hy314]; exact H) | exact H
                                            have Ny314 := Aside0.mk hy314
                                            clear hy314
                                            by_cases c31 : y311.length + y314.length < 35184372088832
                                            · rw [if_pos c31] at H
                                              have LMc31 := Aside0.mk c31
                                              clear c31
                                              obtain ⟨y318, hy318⟩ : ∃ y_ : List Int, y_ = (y311 ++ y314) := ⟨_, rfl⟩
                                              replace H : (consortlaw10_StreamWhole.l1 k3 a0 l1 y318 y301 (wrap64 (x9_3 + 1)) t298 t299 t300) = some true := by first | (rw [hy318]; with_reducible exact H) | (have H2_ := (Option.bind_some _ _).symm.trans H; rw [hy318]; with_reducible exact H2_) | (have H2_ := (Option.bind_some _ _).symm.trans H; with_reducible exact H2_) | with_reducible exact H | (rw [hy318]; exact H) | exact H
                                              have Ny318 := Aside0.mk hy318
                                              clear hy318
                                              have H' := Aside0.mk H
                                              clear H
                                              obtain ⟨Ao32, co32, eo32⟩ := Kd.R_slice HO_5.out
                                              subst eo32
                                              have p292 : 0 ≤ (x9_3 : Int) := of_decide_eq_true (by first | (with_reducible assumption) | assumption)
                                              have q292 : x9_3 < (l1.length : Int) := of_decide_eq_true (by first | (with_reducible assumption) | assumption)
                                              obtain ⟨ad292, e292, hx292_0⟩ := Kd.at_int HR1.out x9_3 p292 q292
                                              cases e292
                                              replace hx292_0 := (HB.out.cell (World.block_lt_of_cell? w _ hx292_0)).trans hx292_0
                                              replace p292 := eq_true p292
                                              replace q292 := eq_true q292
                                              have p293 : 0 ≤ ((ji19) : Int) := of_decide_eq_true (by first | (with_reducible assumption) | assumption)
                                              have q293 : (ji19) < (x5_3.length : Int) := of_decide_eq_true (by first | (with_reducible assumption) | assumption)
                                              obtain ⟨ad293, e293, hx293_0⟩ := Kd.at_int (Kd.R_reads' HO_5.out).2.2 (ji19) p293 q293
                                              cases e293
                                              replace p293 := eq_true p293
                                              replace q293 := eq_true q293
                                              try go_wp2_with (first | ((with_reducible refine gate_callee (f := 11) rfl ?_); refine goesL_ (some 63) rfl rfl Try.func11 (by kernel_rfl) rfl #[.pointer (some ⟨g291, 0, none⟩), .agg #[.int .i64 0, .int .u32 (rd x5_3 (ji19)), .int .u64 0, .int .i64 0, .slice OV.nil.A OV.nil.n OV.nil.c, .string (⟨#[]⟩ : ByteArray)]] rfl (by (try simp only [List.map_toArray, List.map_cons, List.map_nil]); first | done | (simp only [hji19]; rfl) | rfl | (simp only [List.length_drop, List.length_take]; rfl)) ?_; (with_reducible refine (stream_Take.calls g291 x292000_3 x292001_3 x292002_3 0 (rd x5_3 (ji19)) 0 0 OV.nil (⟨#[]⟩ : ByteArray) t294 t297 t298 t299 t300 w _ ?side1 ?side2 A22.out).mono ?_); (case side1 => repeat (first | (with_reducible first | exact HI291.out | apply IsS56.alloc | apply IsS56.drewN | apply IsS56.drew | apply IsS56.set_0 | apply IsS56.set_1 | apply IsS56.set_2) | exact HI291.out)); (case side2 => repeat (first | (with_reducible first | exact HB.out | apply below_alloc | apply pw_below_drewN | apply below_drew1 | refine below_set ?_ (IsS56.ge HI291.out)) | exact HB.out)); rintro e w33 ⟨v295, rfl, ho0, hi, hb, hk⟩; refine ⟨_, rfl, ?_⟩; have n0_ := Aside0.mk (Kd.R_mono (Kd.R_keep (IsS56.apart (show IsS56 w _ g291 x292000_3 x292001_3 x292002_3 from by repeat (first | (with_reducible first | exact HI291.out | apply IsS56.alloc | apply IsS56.drewN | apply IsS56.drew | apply IsS56.set_0 | apply IsS56.set_1 | apply IsS56.set_2) | exact HI291.out)) (by (with_reducible repeat (first | apply Kd.R_alloc | apply Kd.R_drewN | apply Kd.R_drew)); exact HO_5.out) (by first | decide | exact Nat.succ_pos _ | exact ne_of_E rfl (by decide))) hk (fun _ h => h.2)) (fun _ h => h.1)); have n1_ := Aside0.mk (Kd.R_mono (Kd.R_told (Kd.R_oldK (IsS56.apart (show IsS56 w _ g291 x292000_3 x292001_3 x292002_3 from by repeat (first | (with_reducible first | exact HI291.out | apply IsS56.alloc | apply IsS56.drewN | apply IsS56.drew | apply IsS56.set_0 | apply IsS56.set_1 | apply IsS56.set_2) | exact HI291.out)) (by (with_reducible repeat (first | apply Kd.R_alloc | apply Kd.R_drewN | apply Kd.R_drew)); exact HO_8.out) (by first | decide | exact Nat.succ_pos _ | exact ne_of_E rfl (by decide))) hk) (Kd.R_base ho0)) (fun _ h_ => h_.1)); have n2_ := Aside0.mk (Kd.R_lower (Kd.R_new' ho0 (Kd.R_lt (by (with_reducible repeat (first | apply Kd.R_alloc | apply Kd.R_drewN | apply Kd.R_drew)); exact HO_8.out))) (below_size (by repeat (first | (with_reducible first | exact HB.out | apply below_alloc | apply pw_below_drewN | apply below_drew1 | refine below_set ?_ (IsS56.ge HI291.out)) | exact HB.out)))); have n3_ := Aside0.mk (hb); have n4_ := Aside0.mk (hi); clear HO_5; clear HO_8; clear HB; clear HI291; have HO_5 := n0_; have HO_8 := n1_; have HO296 := n2_; have HB := n3_; have HI291 := n4_; clear n0_ n1_ n2_ n3_ n4_; (try clear hb); (try clear hb2); (try clear hk); (try clear hi); (try clear ho0); obtain ⟨Ao35, co35, eo35⟩ := Kd.R_slice HO296.out; subst eo35) | ((with_reducible refine gate_builtin (b := .append) (xs := #[.tmp 68, .tmp 69]) rfl ?_); (try (refine gate_guard (by rfl) ?_; dsimp only)); at_builtin; refine Kd.R_append_rows k37 (w0 := w) w.heap.size rfl (.tmp 68) (.tmp 69) 22 37 (.agg #[(.int .i64 0), (.int .u32 0), (.int .u64 0), (.int .i64 0), (.slice none 0 0), (.string ⟨#[]⟩)]) 72 rfl Try.underlying22 info37 rfl (by first | decide | exact Nat.succ_pos _ | exact ne_of_E rfl (by decide)) (by omega) u8 x8_3 t294 _ _ _ (fun k_ => some k_ ≠ (.slice Ao35 t294.length co35 : Value).ownBlock) (fun _ => False) rfl rfl ?aO ?aR (fun _ _ h => h) (fun _ h => h.elim) ?aF ?aB ?aS ?aL ?_; (case aR => repeat (first | exact (Kd.R_reads' HO296.out).2.2 | (with_reducible refine Kd.C_alloc ?_ _) | (with_reducible refine Kd.C_drewN ?_ _) | (with_reducible refine Kd.C_drew ?_))); (case aB => exact (by repeat (first | (with_reducible first | exact HB.out | apply below_alloc | apply pw_below_drewN | apply below_drew1 | refine below_set ?_ (IsS56.ge HI291.out)) | exact HB.out))); (case aF => exact (fun k_ hk => Kd.fresh' (Kd.R_lt (by (with_reducible repeat (first | apply Kd.R_alloc | apply Kd.R_drewN | apply Kd.R_drew)); exact HO296.out)) k_ hk)); (case aO => exact (by (with_reducible repeat (first | apply Kd.R_alloc | apply Kd.R_drewN | apply Kd.R_drew)); exact Kd.R_mono HO_8.out (fun _ hk => hk.2))); (case aS => exact (below_size (by repeat (first | (with_reducible first | exact HB.out | apply below_alloc | apply pw_below_drewN | apply below_drew1 | refine below_set ?_ (IsS56.ge HI291.out)) | exact HB.out)))); (case aL => have := LMc24.out; omega); intro v302 w34 ho hb hg hat; rw [← Ny301.out] at ho; have n0_ := Aside0.mk (Kd.R_over' (by (with_reducible repeat (first | apply Kd.R_alloc | apply Kd.R_drewN | apply Kd.R_drew)); exact HO_5.out) (Kd.R_typed (by (with_reducible repeat (first | apply Kd.R_alloc | apply Kd.R_drewN | apply Kd.R_drew)); exact HO_8.out)) (by first | decide | exact Nat.succ_pos _ | exact ne_of_E rfl (by decide)) hg); have n1_ := Aside0.mk (IsS56.grown (by repeat (first | (with_reducible first | exact HI291.out | apply IsS56.alloc | apply IsS56.drewN | apply IsS56.drew | apply IsS56.set_0 | apply IsS56.set_1 | apply IsS56.set_2) | exact HI291.out)) hg (IsS56.own_ne HI291.out HO_8.out (by first | decide | exact Nat.succ_pos _ | exact ne_of_E rfl (by decide)))); have n2_ := Aside0.mk (Kd.R_after (ok := (fun _ => True)) (by (with_reducible repeat (first | apply Kd.R_alloc | apply Kd.R_drewN | apply Kd.R_drew)); exact HO296.out) hg hat); have n3_ := Aside0.mk (hb); have n4_ := Aside0.mk (ho); clear HO_5; clear HI291; clear HO296; clear HB; clear HO_8; have HO_5 := n0_; have HI291 := n1_; have HO296 := n2_; have HB := n3_; have HO303 := n4_; clear n0_ n1_ n2_ n3_ n4_; clear ho hb hg hat))
                                              have n0_ := Aside0.mk (Kd.R_drew HO_5.out)
                                              have n1_ := Aside0.mk (Kd.R_drew HO296.out)
                                              have n2_ := Aside0.mk (Kd.R_drew HO303.out)
                                              have n3_ := Aside0.mk (IsS56.drew HI291.out)
                                              have n4_ := Aside0.mk (below_drew1 HB.out)
                                              clear HO_5
                                              clear HO296
                                              clear HO303
                                              clear HI291
                                              clear HB
                                              have HO_5 := n0_
                                              have HO296 := n1_
                                              have HO303 := n2_
                                              have HI291 := n3_
                                              have HB := n4_
                                              clear n0_ n1_ n2_ n3_ n4_
                                              have q37 : ((ji19) : Int) ≤ ((x5_3.length : Int) : Int) := of_decide_eq_true (by first | (with_reducible assumption) | assumption)
                                              obtain ⟨i037, hi037, _, hsz37, _⟩ := info_parts info23
                                              have hroom37 : x5_3.length ≤ co32 := (Kd.R_reads' HO_5.out).2.1
                                              have hC37 : Kd.C (Kd.int .u32) _ (some ad293) x5_3.length x5_3 := (Kd.R_reads' HO_5.out).2.2
                                              have hcut37 := cut_to (P := Try.prog) 35 23 .i64 Try.underlying35 hi037 (some ad293) x5_3.length co32 (ji19) (of_decide_eq_true (by first | (with_reducible assumption) | assumption)) q37 hroom37
                                              have hr37 := Kd.C_take (m := ((ji19) : Int).toNat) hC37 (by omega)
                                              have hy37 : y307.length = ((ji19) : Int).toNat := (by rw [Ny307.out, List.length_take]; omega)
                                              rw [← Ny307.out] at hr37
                                              rw [← hy37] at hcut37
                                              have HR310 := Aside0.mk hr37
                                              have HC310 := Aside0.mk (show y307.length ≤ co32 from by omega)
                                              clear hr37 hC37 hroom37 hi037 hsz37
                                              have KY37 := Aside0.mk hy37
                                              clear hy37
                                              have KL37 := Aside0.mk (show ((ji19) : Int).toNat ≤ x5_3.length from by omega)
                                              replace q37 := eq_true q37
                                              have q38 : ((ji28) : Int) ≤ ((x5_3.length : Int) : Int) := of_decide_eq_true (by first | (with_reducible assumption) | assumption)
                                              obtain ⟨i038, hi038, _, hsz38, _⟩ := info_parts info23
                                              have hroom38 : x5_3.length ≤ co32 := (Kd.R_reads' HO_5.out).2.1
                                              have hC38 : Kd.C (Kd.int .u32) _ (some ad293) x5_3.length x5_3 := (Kd.R_reads' HO_5.out).2.2
                                              have q038 : (0 : Int) ≤ ((ji28) : Int) := of_decide_eq_true (by first | (with_reducible assumption) | assumption)
                                              have hcut38 := cut_from (P := Try.prog) 35 23 .i64 Try.underlying35 hi038 1 hsz38 (some ad293) x5_3.length co32 (ji28) q038 q38
                                              have hr38 := Kd.C_drop (m := ((ji28) : Int).toNat) (c := co32) hC38 (by omega) hroom38
                                              obtain ⟨A38, hA38⟩ : ∃ A1, A1 = (if co32 = ((ji28) : Int).toNat then (some ad293) else ((some ad293) : Option Addr).map (·.add (((ji28) : Int).toNat * 1))) := ⟨_, rfl⟩
                                              obtain ⟨c38, hc38⟩ : ∃ c1, c1 = co32 - ((ji28) : Int).toNat := ⟨_, rfl⟩
                                              have hy38 : y314.length = x5_3.length - ((ji28) : Int).toNat := (by rw [Ny314.out, List.length_drop] <;> omega)
                                              rw [show (x5_3).drop ((ji28) : Int).toNat = y314 from Ny314.out.symm] at hr38
                                              replace hr38 : Kd.C (Kd.int .u32) _ A38 y314.length y314 := (by rw [hA38]; exact hr38)
                                              rw [← hy38, ← hA38, ← hc38] at hcut38
                                              have HR317 := Aside0.mk hr38
                                              have HC317 := Aside0.mk (show y314.length ≤ c38 from by rw [hy38, hc38]; exact Nat.sub_le_sub_right hroom38 _)
                                              clear hr38 hC38 hroom38 hi038 hsz38 hc38
                                              have KY38 := Aside0.mk hy38
                                              have KA38 := Aside0.mk hA38
                                              clear hy38 hA38
                                              have KL38 := Aside0.mk (show ((ji28) : Int).toNat ≤ x5_3.length from by omega)
                                              replace q38 := eq_true q38
                                              refine start_ (n := 11) (S := fun w' => True) (ds := []) #[false, false, false, false, false, false, false, false, false, false, false] (by kernel_rfl) rfl rfl trivial (fun hHeld => ?_); refine with_tabW consortlaw10_StreamWhole.tab22 consortlaw10_StreamWhole.bits22 (fun HT_ HW_ => ?_)
                                              generalize w34.drew = w36 at HO_5 HO296 HO303 HI291 HB HR310 HR317 hHeld ⊢
                                              refine pure_ (i := 1) (N := some 72) (v := ?_) (a' := ?_) #[false, true, false, false, false, false, false, false, false, false, false] rfl rfl (any_of HT_.out (by kernel_rfl)) (fun _ _ _ h => h) (Or.inl ⟨by rfl, ?_⟩) ?_ ?_
                                              rotate_left
                                              · intro w'
                                                go_simp
                                                with_reducible rfl
                                              rotate_left
                                              · simp only [Act.put, List.setIfInBounds_toArray, List.set_cons_zero, List.set_cons_succ, i64_w, i32_w]
                                                rfl
                                              refine pure_ (i := 2) (N := some 73) (v := ?_) (a' := ?_) #[false, true, true, false, false, false, false, false, false, false, false] rfl rfl (any_of HT_.out (by kernel_rfl)) (fun _ _ _ h => h) (Or.inl ⟨by rfl, ?_⟩) ?_ ?_
                                              rotate_left
                                              · intro w'
                                                go_simp
                                                with_reducible rfl
                                              rotate_left
                                              · simp only [Act.put, List.setIfInBounds_toArray, List.set_cons_zero, List.set_cons_succ, i64_w, i32_w]
                                                rfl
                                              refine pure_ (i := 3) (N := some 74) (v := ?_) (a' := ?_) #[false, true, true, true, false, false, false, false, false, false, false] rfl rfl (any_of HT_.out (by kernel_rfl)) (fun _ _ _ h => h) (Or.inl ⟨by rfl, ?_⟩) ?_ ?_
                                              rotate_left
                                              · intro w'
                                                go_simp
                                                with_reducible rfl
                                              rotate_left
                                              · simp only [Act.put, List.setIfInBounds_toArray, List.set_cons_zero, List.set_cons_succ, i64_w, i32_w]
                                                rfl
                                              refine pure_ (i := 5) (N := some 76) (v := ?_) (a' := ?_) #[false, true, true, true, false, true, false, false, false, false, false] rfl rfl (any_of HT_.out (by kernel_rfl)) (fun _ _ _ h => h) (Or.inl ⟨by rfl, ?_⟩) ?_ ?_
                                              rotate_left
                                              · intro w'
                                                go_simp
                                                with_reducible rfl
                                              rotate_left
                                              · simp only [Act.put, List.setIfInBounds_toArray, List.set_cons_zero, List.set_cons_succ, i64_w, i32_w]
                                                rfl
                                              refine pure_ (i := 6) (N := some 77) (v := ?_) (a' := ?_) #[false, true, true, true, false, true, true, false, false, false, false] rfl rfl (any_of HT_.out (by kernel_rfl)) (fun _ _ _ h => h) (Or.inl ⟨by rfl, ?_⟩) ?_ ?_
                                              rotate_left
                                              · intro w'
                                                go_simp
                                                with_reducible rfl
                                              rotate_left
                                              · simp only [Act.put, List.setIfInBounds_toArray, List.set_cons_zero, List.set_cons_succ, i64_w, i32_w]
                                                rfl
                                              refine pure_ (i := 7) (N := some 78) (v := ?_) (a' := ?_) #[false, true, true, true, false, true, true, true, false, false, false] rfl rfl (any_of HT_.out (by kernel_rfl)) (fun _ _ _ h => h) (Or.inl ⟨by rfl, ?_⟩) ?_ ?_
                                              rotate_left
                                              · intro w'
                                                go_simp
                                                with_reducible rfl
                                              rotate_left
                                              · simp only [Act.put, List.setIfInBounds_toArray, List.set_cons_zero, List.set_cons_succ, i64_w, i32_w]
                                                rfl
                                              refine pure_ (i := 8) (N := some 79) (v := ?_) (a' := ?_) #[false, true, true, true, false, true, true, true, true, false, false] rfl rfl (any_of HT_.out (by kernel_rfl)) (fun _ _ _ h => h) (Or.inl ⟨by rfl, ?_⟩) ?_ ?_
                                              rotate_left
                                              · intro w'
                                                go_simp
                                                with_reducible rfl
                                              rotate_left
                                              · simp only [Act.put, List.setIfInBounds_toArray, List.set_cons_zero, List.set_cons_succ, i64_w, i32_w]
                                                rfl
                                              refine one_ (i := 0) (N := some 71) #[true, true, true, true, false, true, true, true, true, false, false] rfl rfl (one_of HT_.out (by kernel_rfl)) (by first | decide | exact Nat.succ_pos _ | exact ne_of_E rfl (by decide)) (fun K hK => ?_)
                                              refine Kd.R_lit_step (Kd.int .u32) _ 23 ?hg (N := 71) ?hd (xs := ([] : List Int)) (inner := []) (ok := fun _ => True) (okp := fun _ => True) ?hr ?hp (fun _ hk => hk) trivial (Below.refl _ _) (Nat.le_refl _) (by simp) ?_; (case hd => rfl); (case hg => rfl); (case hr => first | (go_simp; done) | (go_simp; rfl)); (case hp => exact (Reps.none _ _))
                                              intro v305 w39 ho40 hb hg_ hnew_
                                              clear hg_ hnew_
                                              (first | rw [← Ny304.out] at ho40 | (simp only [Int.reduceToNat] at ho40; rw [← Ny304.out] at ho40))
                                              have n0_ := Aside0.mk (Kd.R_elder' (by (with_reducible repeat (first | apply Kd.R_alloc | apply Kd.R_drewN | apply Kd.R_drew)); exact HO_5.out) (Kd.R_base ho40) hb)
                                              have n1_ := Aside0.mk (Kd.R_below (by (with_reducible repeat (first | apply Kd.R_alloc | apply Kd.R_drewN | apply Kd.R_drew)); exact HO296.out) hb)
                                              have n2_ := Aside0.mk (Kd.R_below (by (with_reducible repeat (first | apply Kd.R_alloc | apply Kd.R_drewN | apply Kd.R_drew)); exact HO303.out) hb)
                                              have n3_ := Aside0.mk (Kd.R_lower (Kd.R_new' ho40 (Kd.R_lt (by (with_reducible repeat (first | apply Kd.R_alloc | apply Kd.R_drewN | apply Kd.R_drew)); exact HO_5.out))) (below_size (by repeat (first | (with_reducible first | exact HB.out | apply below_alloc | apply pw_below_drewN | apply below_drew1 | refine below_set ?_ (IsS56.ge HI291.out)) | exact HB.out))))
                                              have n4_ := Aside0.mk (IsS56.below (by repeat (first | (with_reducible first | exact HI291.out | apply IsS56.alloc | apply IsS56.drewN | apply IsS56.drew | apply IsS56.set_0 | apply IsS56.set_1 | apply IsS56.set_2) | exact HI291.out)) hb)
                                              have n5_ := Aside0.mk (Kd.C_below (by repeat (first | (with_reducible exact HR310.out) | (with_reducible refine Kd.C_alloc ?_ _) | (with_reducible refine Kd.C_drewN ?_ _) | (with_reducible refine Kd.C_drew ?_) | exact HR310.out)) hb)
                                              have n6_ := Aside0.mk (Kd.C_below (by repeat (first | (with_reducible exact HR317.out) | (with_reducible refine Kd.C_alloc ?_ _) | (with_reducible refine Kd.C_drewN ?_ _) | (with_reducible refine Kd.C_drew ?_) | exact HR317.out)) hb)
                                              have n7_ := Aside0.mk (below_step (by repeat (first | (with_reducible first | exact HB.out | apply below_alloc | apply pw_below_drewN | apply below_drew1 | refine below_set ?_ (IsS56.ge HI291.out)) | exact HB.out)) hb)
                                              clear HO_5
                                              clear HO296
                                              clear HO303
                                              clear HI291
                                              clear HR310
                                              clear HR317
                                              clear HB
                                              have HO_5 := n0_
                                              have HO296 := n1_
                                              have HO303 := n2_
                                              have HO306 := n3_
                                              have HI291 := n4_
                                              have HR310 := n5_
                                              have HR317 := n6_
                                              have HB := n7_
                                              clear n0_ n1_ n2_ n3_ n4_ n5_ n6_ n7_
                                              clear hb ho40
                                              refine hK.out _ _ trivial (fun hHeld => ?_)
                                              clear hK K
                                              refine norm_ (a' := ?_) ?_ ?_
                                              rotate_left
                                              · show Act.put _ (some 71) _ = _
                                                simp only [Act.put, List.setIfInBounds_toArray, List.set_cons_zero, List.set_cons_succ, i64_w, i32_w]
                                                rfl
                                              refine one_ (i := 4) (N := some 75) #[true, true, true, true, true, true, true, true, true, false, false] rfl rfl (one_of HT_.out (by kernel_rfl)) (by first | decide | exact Nat.succ_pos _ | exact ne_of_E rfl (by decide)) (fun K hK => ?_)
                                              refine Kd.R_append_rows_step (Kd.int .u32) (w0 := w) w.heap.size (by rfl) (.tmp 71) (.tmp 74) 35 23 (.int .u32 0) 4 rfl Try.underlying35 info23 rfl (by first | decide | exact Nat.succ_pos _ | exact ne_of_E rfl (by decide)) (by omega) v305 y304 y307 _ _ _ (fun k_ => some k_ ≠ (.slice (some ad293) x5_3.length co32 : Value).ownBlock) (fun _ => False) rfl rfl ?aO ?aR (fun _ _ h => h) (fun _ h => h.elim) ?aF ?aB ?aS ?aL ?_
                                              (case aR => repeat (first | exact (by repeat (first | (with_reducible exact HR310.out) | (with_reducible refine Kd.C_alloc ?_ _) | (with_reducible refine Kd.C_drewN ?_ _) | (with_reducible refine Kd.C_drew ?_) | exact HR310.out)) | (with_reducible refine Kd.C_alloc ?_ _) | (with_reducible refine Kd.C_drewN ?_ _) | (with_reducible refine Kd.C_drew ?_)))
                                              (case aB => exact (by repeat (first | (with_reducible first | exact HB.out | apply below_alloc | apply pw_below_drewN | apply below_drew1 | refine below_set ?_ (IsS56.ge HI291.out)) | exact HB.out)))
                                              (case aF => exact (fun k_ hk => Kd.fresh' (Kd.R_lt (by (with_reducible repeat (first | apply Kd.R_alloc | apply Kd.R_drewN | apply Kd.R_drew)); exact HO_5.out)) k_ hk))
                                              (case aO => exact (by (with_reducible repeat (first | apply Kd.R_alloc | apply Kd.R_drewN | apply Kd.R_drew)); exact Kd.R_mono HO306.out (fun _ hk => hk.2)))
                                              (case aS => exact (below_size (by repeat (first | (with_reducible first | exact HB.out | apply below_alloc | apply pw_below_drewN | apply below_drew1 | refine below_set ?_ (IsS56.ge HI291.out)) | exact HB.out))))
                                              (case aL => have := LMc27.out; omega)
                                              intro v312 w41 ho hb hg hat
                                              rw [← Ny311.out] at ho
                                              have n0_ := Aside0.mk (Kd.R_after (ok := (fun _ => True)) (by (with_reducible repeat (first | apply Kd.R_alloc | apply Kd.R_drewN | apply Kd.R_drew)); exact HO_5.out) hg hat)
                                              have n1_ := Aside0.mk (IsS56.grown (by repeat (first | (with_reducible first | exact HI291.out | apply IsS56.alloc | apply IsS56.drewN | apply IsS56.drew | apply IsS56.set_0 | apply IsS56.set_1 | apply IsS56.set_2) | exact HI291.out)) hg (IsS56.own_ne HI291.out HO306.out (by first | decide | exact Nat.succ_pos _ | exact ne_of_E rfl (by decide))))
                                              have n2_ := Aside0.mk (Kd.R_over' (by (with_reducible repeat (first | apply Kd.R_alloc | apply Kd.R_drewN | apply Kd.R_drew)); exact HO296.out) (Kd.R_typed (by (with_reducible repeat (first | apply Kd.R_alloc | apply Kd.R_drewN | apply Kd.R_drew)); exact HO306.out)) (by first | decide | exact Nat.succ_pos _ | exact ne_of_E rfl (by decide)) hg)
                                              have n3_ := Aside0.mk (Kd.R_over' (by (with_reducible repeat (first | apply Kd.R_alloc | apply Kd.R_drewN | apply Kd.R_drew)); exact HO303.out) (Kd.R_typed (by (with_reducible repeat (first | apply Kd.R_alloc | apply Kd.R_drewN | apply Kd.R_drew)); exact HO306.out)) (by first | decide | exact Nat.succ_pos _ | exact ne_of_E rfl (by decide)) hg)
                                              have n4_ := Aside0.mk (hb)
                                              have n5_ := Aside0.mk ((show Kd.C (Kd.int .u32) w41 (some ad293) y307.length y307 from by rw [Ny307.out]; exact Kd.C_take (m := ((ji19) : Int).toNat) ((Kd.R_reads' (Kd.R_after (ok := (fun _ => True)) (by (with_reducible repeat (first | apply Kd.R_alloc | apply Kd.R_drewN | apply Kd.R_drew)); exact HO_5.out) hg hat)).2.2) KL37.out))
                                              have n6_ := Aside0.mk ((show Kd.C (Kd.int .u32) w41 A38 y314.length y314 from by rw [Ny314.out, KA38.out]; exact Kd.C_drop (m := ((ji28) : Int).toNat) (c := co32) ((Kd.R_reads' (Kd.R_after (ok := (fun _ => True)) (by (with_reducible repeat (first | apply Kd.R_alloc | apply Kd.R_drewN | apply Kd.R_drew)); exact HO_5.out) hg hat)).2.2) KL38.out ((Kd.R_reads' (Kd.R_after (ok := (fun _ => True)) (by (with_reducible repeat (first | apply Kd.R_alloc | apply Kd.R_drewN | apply Kd.R_drew)); exact HO_5.out) hg hat)).2.1)))
                                              have n7_ := Aside0.mk (ho)
                                              clear HO_5
                                              clear HI291
                                              clear HO296
                                              clear HO303
                                              clear HB
                                              clear HR310
                                              clear HR317
                                              clear HO306
                                              have HO_5 := n0_
                                              have HI291 := n1_
                                              have HO296 := n2_
                                              have HO303 := n3_
                                              have HB := n4_
                                              have HR310 := n5_
                                              have HR317 := n6_
                                              have HO313 := n7_
                                              clear n0_ n1_ n2_ n3_ n4_ n5_ n6_ n7_
                                              clear ho hb hg hat
                                              refine hK.out _ _ trivial (fun hHeld => ?_)
                                              clear hK K
                                              refine norm_ (a' := ?_) ?_ ?_
                                              rotate_left
                                              · show Act.put _ (some 75) _ = _
                                                simp only [Act.put, List.setIfInBounds_toArray, List.set_cons_zero, List.set_cons_succ, i64_w, i32_w]
                                                rfl
                                              refine one_ (i := 9) (N := some 80) #[true, true, true, true, true, true, true, true, true, true, false] rfl rfl (one_of HT_.out (by kernel_rfl)) (by first | decide | exact Nat.succ_pos _ | exact ne_of_E rfl (by decide)) (fun K hK => ?_)
                                              refine Kd.R_append_rows_step (Kd.int .u32) (w0 := w) w.heap.size (by rfl) (.tmp 75) (.tmp 79) 35 23 (.int .u32 0) 4 rfl Try.underlying35 info23 rfl (by first | decide | exact Nat.succ_pos _ | exact ne_of_E rfl (by decide)) (by omega) v312 y311 y314 _ _ _ (fun k_ => some k_ ≠ (.slice (some ad293) x5_3.length co32 : Value).ownBlock) (fun _ => False) rfl rfl ?aO ?aR (fun _ _ h => h) (fun _ h => h.elim) ?aF ?aB ?aS ?aL ?_
                                              (case aR => repeat (first | exact (by repeat (first | (with_reducible exact HR317.out) | (with_reducible refine Kd.C_alloc ?_ _) | (with_reducible refine Kd.C_drewN ?_ _) | (with_reducible refine Kd.C_drew ?_) | exact HR317.out)) | (with_reducible refine Kd.C_alloc ?_ _) | (with_reducible refine Kd.C_drewN ?_ _) | (with_reducible refine Kd.C_drew ?_)))
                                              (case aB => exact (by repeat (first | (with_reducible first | exact HB.out | apply below_alloc | apply pw_below_drewN | apply below_drew1 | refine below_set ?_ (IsS56.ge HI291.out)) | exact HB.out)))
                                              (case aF => exact (fun k_ hk => Kd.fresh' (Kd.R_lt (by (with_reducible repeat (first | apply Kd.R_alloc | apply Kd.R_drewN | apply Kd.R_drew)); exact HO_5.out)) k_ hk))
                                              (case aO => exact (by (with_reducible repeat (first | apply Kd.R_alloc | apply Kd.R_drewN | apply Kd.R_drew)); exact HO313.out))
                                              (case aS => exact (below_size (by repeat (first | (with_reducible first | exact HB.out | apply below_alloc | apply pw_below_drewN | apply below_drew1 | refine below_set ?_ (IsS56.ge HI291.out)) | exact HB.out))))
                                              (case aL => have := LMc31.out; omega)
                                              intro v319 w42 ho hb hg hat
                                              rw [← Ny318.out] at ho
                                              have n0_ := Aside0.mk (Kd.R_after (ok := (fun _ => True)) (by (with_reducible repeat (first | apply Kd.R_alloc | apply Kd.R_drewN | apply Kd.R_drew)); exact HO_5.out) hg hat)
                                              have n1_ := Aside0.mk (IsS56.grown (by repeat (first | (with_reducible first | exact HI291.out | apply IsS56.alloc | apply IsS56.drewN | apply IsS56.drew | apply IsS56.set_0 | apply IsS56.set_1 | apply IsS56.set_2) | exact HI291.out)) hg (IsS56.own_ne HI291.out HO313.out (by first | decide | exact Nat.succ_pos _ | exact ne_of_E rfl (by decide))))
                                              have n2_ := Aside0.mk (Kd.R_over' (by (with_reducible repeat (first | apply Kd.R_alloc | apply Kd.R_drewN | apply Kd.R_drew)); exact HO296.out) (Kd.R_typed (by (with_reducible repeat (first | apply Kd.R_alloc | apply Kd.R_drewN | apply Kd.R_drew)); exact HO313.out)) (by first | decide | exact Nat.succ_pos _ | exact ne_of_E rfl (by decide)) hg)
                                              have n3_ := Aside0.mk (Kd.R_over' (by (with_reducible repeat (first | apply Kd.R_alloc | apply Kd.R_drewN | apply Kd.R_drew)); exact HO303.out) (Kd.R_typed (by (with_reducible repeat (first | apply Kd.R_alloc | apply Kd.R_drewN | apply Kd.R_drew)); exact HO313.out)) (by first | decide | exact Nat.succ_pos _ | exact ne_of_E rfl (by decide)) hg)
                                              have n4_ := Aside0.mk (hb)
                                              have n5_ := Aside0.mk ((show Kd.C (Kd.int .u32) w42 (some ad293) y307.length y307 from by rw [Ny307.out]; exact Kd.C_take (m := ((ji19) : Int).toNat) ((Kd.R_reads' (Kd.R_after (ok := (fun _ => True)) (by (with_reducible repeat (first | apply Kd.R_alloc | apply Kd.R_drewN | apply Kd.R_drew)); exact HO_5.out) hg hat)).2.2) KL37.out))
                                              have n6_ := Aside0.mk ((show Kd.C (Kd.int .u32) w42 A38 y314.length y314 from by rw [Ny314.out, KA38.out]; exact Kd.C_drop (m := ((ji28) : Int).toNat) (c := co32) ((Kd.R_reads' (Kd.R_after (ok := (fun _ => True)) (by (with_reducible repeat (first | apply Kd.R_alloc | apply Kd.R_drewN | apply Kd.R_drew)); exact HO_5.out) hg hat)).2.2) KL38.out ((Kd.R_reads' (Kd.R_after (ok := (fun _ => True)) (by (with_reducible repeat (first | apply Kd.R_alloc | apply Kd.R_drewN | apply Kd.R_drew)); exact HO_5.out) hg hat)).2.1)))
                                              have n7_ := Aside0.mk (ho)
                                              clear HO_5
                                              clear HI291
                                              clear HO296
                                              clear HO303
                                              clear HB
                                              clear HR310
                                              clear HR317
                                              clear HO313
                                              have HO_5 := n0_
                                              have HI291 := n1_
                                              have HO296 := n2_
                                              have HO303 := n3_
                                              have HB := n4_
                                              have HR310 := n5_
                                              have HR317 := n6_
                                              have HO320 := n7_
                                              clear n0_ n1_ n2_ n3_ n4_ n5_ n6_ n7_
                                              clear ho hb hg hat
                                              refine hK.out _ _ trivial (fun hHeld => ?_)
                                              clear hK K
                                              refine norm_ (a' := ?_) ?_ ?_
                                              rotate_left
                                              · show Act.put _ (some 80) _ = _
                                                simp only [Act.put, List.setIfInBounds_toArray, List.set_cons_zero, List.set_cons_succ, i64_w, i32_w]
                                                rfl
                                              refine pure_ (i := 10) (N := some 5) (v := ?_) (a' := ?_) #[true, true, true, true, true, true, true, true, true, true, true] rfl rfl (any_of HT_.out (by kernel_rfl)) (fun _ _ _ h => h) (Or.inl ⟨by rfl, ?_⟩) ?_ ?_
                                              rotate_left
                                              · intro w'
                                                go_simp
                                                with_reducible rfl
                                              rotate_left
                                              · simp only [Act.put, List.setIfInBounds_toArray, List.set_cons_zero, List.set_cons_succ, i64_w, i32_w]
                                                rfl
                                              refine done_ (done_of HT_.out (by kernel_rfl)) ?_
                                              try go_wp2
                                              go_roundg k3
                                              case measure => have := HJ4.out; have := HK2.out; have := HK3.out; omega
                                              case rel => exact ⟨(y318), (y301), (wrap64 (x9_3 + 1)), (t298), (t299), (t300), (by first | rfl | (simp; done) | (simp [*]; done)), H', ⟨by have := HJ4.out; have := HK2.out; have := HK3.out; omega⟩, ⟨by (with_reducible repeat (first | apply Kd.R_alloc | apply Kd.R_drewN | apply Kd.R_drew)); exact Kd.R_mono HO320.out (fun _ hk => trivial)⟩, ⟨by (with_reducible repeat (first | apply Kd.R_alloc | apply Kd.R_drewN | apply Kd.R_drew)); exact Kd.R_mono HO303.out (fun _ hk => trivial)⟩, ⟨by repeat (first | (with_reducible first | exact HI291.out | apply IsS56.alloc | apply IsS56.drewN | apply IsS56.drew | apply IsS56.set_0 | apply IsS56.set_1 | apply IsS56.set_2) | exact HI291.out)⟩, ⟨by repeat (first | (with_reducible first | exact HB.out | apply below_alloc | apply pw_below_drewN | apply below_drew1 | refine below_set ?_ (IsS56.ge HI291.out)) | exact HB.out)⟩⟩
                                            · rw [if_neg c31] at H
                                              exact absurd H (by simp)
                                          · rw [if_neg c30] at H
                                            exact absurd H (by simp)
                                        · rw [if_neg c29] at H
                                          exact absurd H (by simp)
                                      · rw [if_neg c27] at H
                                        exact absurd H (by simp)
                                    · rw [if_neg c26] at H
                                      exact absurd H (by simp)
                                  · rw [if_neg c24] at H
                                    exact absurd H (by simp)
                                · rw [if_neg c23] at H
                                  have c23b0 : (t297 == 0) = false := beq_eq_false_iff_ne.mpr c23
                                  have c23b1 : (t297 != 0) = true := bne_iff_ne.mpr c23
                                  exact absurd H (by simp)
                              · rw [if_neg c21] at H
                                exact absurd H (by simp)
                            · rw [if_neg c20] at H
                              exact absurd H (by simp)
                        · rw [if_neg c17] at H
                          exact absurd H (by simp)
                      · rw [if_neg c16] at H
                        have c16b0 : decide (x9_3 < (l1.length : Int)) = false := decide_eq_false c16
                        clear c16
                        by_cases c43 : 0 < (x5_3.length : Int)
                        · rw [if_pos c43] at H
                          have c43b0 : decide (0 < (x5_3.length : Int)) = true := decide_eq_true c43
                          have c43b1 : decide (0 < x5_3.length) = true := decide_eq_true (by omega)
                          clear c43
                          replace H := Option.bind_eq_some_iff.mp H
                          obtain ⟨⟨t322, t325, t326, t327, t328⟩, A440, H⟩ := H
                          replace H : (if t325 = 0 then (if x8_3.length + t322.length < 1954687338268 then ((some (([] : List Int) : List Int)).bind fun y332 => (if 0 ≤ (x5_3.length : Int) then ((some (x5_3.take 0 : List Int)).bind fun y335 => (if y332.length + y335.length < 35184372088832 then ((some (y332 ++ y335 : List Int)).bind fun y339 => (if 0 ≤ (wrap64 1) then (if (wrap64 1) ≤ (x5_3.length : Int) then ((some (x5_3.drop ((wrap64 1) : Int).toNat : List Int)).bind fun y342 => (if y339.length + y342.length < 35184372088832 then (consortlaw10_StreamWhole.l1 k3 a0 l1 (y339 ++ y342) (x8_3 ++ t322) (wrap64 (x9_3 + 1)) t326 t327 t328) else (none))) else (none)) else (none))) else (none))) else (none))) else (none)) else (some false)) = some true := H
                          have A44 := Aside0.mk A440
                          clear A440
                          by_cases c45 : t325 = 0
                          · rw [if_pos c45] at H
                            have c45b0 : (t325 == 0) = true := beq_iff_eq.mpr c45
                            have c45b1 : (t325 != 0) = false := bne_eq_false_iff_eq.mpr c45
                            clear c45
                            by_cases c46 : x8_3.length + t322.length < 1954687338268
                            · rw [if_pos c46] at H
                              have LMc46 := Aside0.mk c46
                              clear c46
                              obtain ⟨y329, hy329⟩ : ∃ y_ : List (S37), y_ = (x8_3 ++ t322) := ⟨_, rfl⟩
                              replace H : ((some (([] : List Int) : List Int)).bind fun y332 => (if 0 ≤ (x5_3.length : Int) then ((some (x5_3.take 0 : List Int)).bind fun y335 => (if y332.length + y335.length < 35184372088832 then ((some (y332 ++ y335 : List Int)).bind fun y339 => (if 0 ≤ (wrap64 1) then (if (wrap64 1) ≤ (x5_3.length : Int) then ((some (x5_3.drop ((wrap64 1) : Int).toNat : List Int)).bind fun y342 => (if y339.length + y342.length < 35184372088832 then (consortlaw10_StreamWhole.l1 k3 a0 l1 (y339 ++ y342) y329 (wrap64 (x9_3 + 1)) t326 t327 t328) else (none))) else (none)) else (none))) else (none))) else (none))) = some true := by first | (rw [hy329]; with_reducible exact H) | (have H2_ := (Option.bind_some _ _).symm.trans H; rw [hy329]; with_reducible exact H2_) | (have H2_ := (Option.bind_some _ _).symm.trans H; with_reducible exact H2_) | with_reducible exact H | (rw [hy329]; exact H) | exact H
                              have Ny329 := Aside0.mk hy329
                              clear hy329
                              obtain ⟨y332, hy332⟩ : ∃ y_ : List Int, y_ = (([] : List Int)) := ⟨_, rfl⟩
                              replace H : (if 0 ≤ (x5_3.length : Int) then ((some (x5_3.take 0 : List Int)).bind fun y335 => (if y332.length + y335.length < 35184372088832 then ((some (y332 ++ y335 : List Int)).bind fun y339 => (if 0 ≤ (wrap64 1) then (if (wrap64 1) ≤ (x5_3.length : Int) then ((some (x5_3.drop ((wrap64 1) : Int).toNat : List Int)).bind fun y342 => (if y339.length + y342.length < 35184372088832 then (consortlaw10_StreamWhole.l1 k3 a0 l1 (y339 ++ y342) y329 (wrap64 (x9_3 + 1)) t326 t327 t328) else (none))) else (none)) else (none))) else (none))) else (none)) = some true := by first | (rw [hy332]; with_reducible exact H) | (have H2_ := (Option.bind_some _ _).symm.trans H; rw [hy332]; with_reducible exact H2_) | (have H2_ := (Option.bind_some _ _).symm.trans H; with_reducible exact H2_) | with_reducible exact H | (rw [hy332]; exact H) | exact H
                              have Ny332 := Aside0.mk hy332
                              clear hy332
                              by_cases c47 : 0 ≤ (x5_3.length : Int)
                              · rw [if_pos c47] at H
                                have c47b0 := eq_true c47
                                have c47b1 : decide (0 ≤ (x5_3.length : Int)) = true := decide_eq_true c47
                                clear c47
                                obtain ⟨y335, hy335⟩ : ∃ y_ : List Int, y_ = (x5_3.take 0) := ⟨_, rfl⟩
                                replace H : (if y332.length + y335.length < 35184372088832 then ((some (y332 ++ y335 : List Int)).bind fun y339 => (if 0 ≤ (wrap64 1) then (if (wrap64 1) ≤ (x5_3.length : Int) then ((some (x5_3.drop ((wrap64 1) : Int).toNat : List Int)).bind fun y342 => (if y339.length + y342.length < 35184372088832 then (consortlaw10_StreamWhole.l1 k3 a0 l1 (y339 ++ y342) y329 (wrap64 (x9_3 + 1)) t326 t327 t328) else (none))) else (none)) else (none))) else (none)) = some true := by first | (rw [hy335]; with_reducible exact H) | (have H2_ := (Option.bind_some _ _).symm.trans H; rw [hy335]; with_reducible exact H2_) | (have H2_ := (Option.bind_some _ _).symm.trans H; with_reducible exact H2_) | with_reducible exact H | (rw [hy335]; exact H) | exact H
                                have Ny335 := Aside0.mk hy335
                                clear hy335
                                by_cases c48 : y332.length + y335.length < 35184372088832
                                · rw [if_pos c48] at H
                                  have LMc48 := Aside0.mk c48
                                  clear c48
                                  obtain ⟨y339, hy339⟩ : ∃ y_ : List Int, y_ = (y332 ++ y335) := ⟨_, rfl⟩
                                  replace H : (if 0 ≤ (wrap64 1) then (if (wrap64 1) ≤ (x5_3.length : Int) then ((some (x5_3.drop ((wrap64 1) : Int).toNat : List Int)).bind fun y342 => (if y339.length + y342.length < 35184372088832 then (consortlaw10_StreamWhole.l1 k3 a0 l1 (y339 ++ y342) y329 (wrap64 (x9_3 + 1)) t326 t327 t328) else (none))) else (none)) else (none)) = some true := by first | (rw [hy339]; with_reducible exact H) | (have H2_ := (Option.bind_some _ _).symm.trans H; rw [hy339]; with_reducible exact H2_) | (have H2_ := (Option.bind_some _ _).symm.trans H; with_reducible exact H2_) | with_reducible exact H | (rw [hy339]; exact H) | exact H
                                  have Ny339 := Aside0.mk hy339
                                  clear hy339
                                  obtain ⟨ji49, hji49⟩ : ∃ j_ : Int, (wrap64 1) = j_ := ⟨_, rfl⟩
                                  replace H : (if 0 ≤ (ji49) then (if (ji49) ≤ (x5_3.length : Int) then ((some (x5_3.drop ((ji49) : Int).toNat : List Int)).bind fun y342 => (if y339.length + y342.length < 35184372088832 then (consortlaw10_StreamWhole.l1 k3 a0 l1 (y339 ++ y342) y329 (wrap64 (x9_3 + 1)) t326 t327 t328) else (none))) else (none)) else (none)) = some true := by first | (rw [hji49] at H; exact H) | (simp only [hji49] at H ⊢; exact H)
                                  (try rw [hji49] at A44)
                                  by_cases c50 : 0 ≤ (ji49)
                                  · rw [if_pos c50] at H
                                    have c50b0 := eq_true c50
                                    have c50b1 : decide (0 ≤ (ji49)) = true := decide_eq_true c50
                                    clear c50
                                    by_cases c51 : (ji49) ≤ (x5_3.length : Int)
                                    · rw [if_pos c51] at H
                                      have c51b0 := eq_true c51
                                      have c51b1 : decide ((ji49) ≤ (x5_3.length : Int)) = true := decide_eq_true c51
                                      clear c51
                                      obtain ⟨y342, hy342⟩ : ∃ y_ : List Int, y_ = (x5_3.drop ((ji49) : Int).toNat) := ⟨_, rfl⟩
                                      replace H : (if y339.length + y342.length < 35184372088832 then (consortlaw10_StreamWhole.l1 k3 a0 l1 (y339 ++ y342) y329 (wrap64 (x9_3 + 1)) t326 t327 t328) else (none)) = some true := by first | (rw [hy342]; with_reducible exact H) | (have H2_ := (Option.bind_some _ _).symm.trans H; rw [hy342]; with_reducible exact H2_) | (have H2_ := (Option.bind_some _ _).symm.trans H; with_reducible exact H2_) | with_reducible exact H | (rw [hy342]; exact H) | exact H
                                      have Ny342 := Aside0.mk hy342
                                      clear hy342
                                      by_cases c52 : y339.length + y342.length < 35184372088832
                                      · rw [if_pos c52] at H
                                        have LMc52 := Aside0.mk c52
                                        clear c52
                                        obtain ⟨y346, hy346⟩ : ∃ y_ : List Int, y_ = (y339 ++ y342) := ⟨_, rfl⟩
                                        replace H : (consortlaw10_StreamWhole.l1 k3 a0 l1 y346 y329 (wrap64 (x9_3 + 1)) t326 t327 t328) = some true := by first | (rw [hy346]; with_reducible exact H) | (have H2_ := (Option.bind_some _ _).symm.trans H; rw [hy346]; with_reducible exact H2_) | (have H2_ := (Option.bind_some _ _).symm.trans H; with_reducible exact H2_) | with_reducible exact H | (rw [hy346]; exact H) | exact H
                                        have Ny346 := Aside0.mk hy346
                                        clear hy346
                                        have H' := Aside0.mk H
                                        clear H
                                        obtain ⟨Ao53, co53, eo53⟩ := Kd.R_slice HO_5.out
                                        subst eo53
                                        have p321 : 0 ≤ (0 : Int) := (by omega)
                                        have q321 : 0 < (x5_3.length : Int) := of_decide_eq_true (by first | (with_reducible assumption) | assumption)
                                        obtain ⟨ad321, e321, hx321_0⟩ := Kd.at_int (Kd.R_reads' HO_5.out).2.2 0 p321 q321
                                        cases e321
                                        have qi321 : (0 < x5_3.length) = True := eq_true (by omega)
                                        (try rw [show ((0 : Int)).toNat = 0 from rfl] at hx321_0)
                                        (try rw [Addr.add_zero'] at hx321_0)
                                        replace p321 := eq_true p321
                                        replace q321 := eq_true q321
                                        try go_wp2_with (first | ((with_reducible refine gate_callee (f := 11) rfl ?_); refine goesL_ (some 63) rfl rfl Try.func11 (by kernel_rfl) rfl #[.pointer (some ⟨g291, 0, none⟩), .agg #[.int .i64 0, .int .u32 (rd x5_3 0), .int .u64 0, .int .i64 0, .slice OV.nil.A OV.nil.n OV.nil.c, .string (⟨#[]⟩ : ByteArray)]] rfl (by (try simp only [List.map_toArray, List.map_cons, List.map_nil]); first | done | rfl | (simp only [List.length_drop, List.length_take]; rfl)) ?_; (with_reducible refine (stream_Take.calls g291 x292000_3 x292001_3 x292002_3 0 (rd x5_3 0) 0 0 OV.nil (⟨#[]⟩ : ByteArray) t322 t325 t326 t327 t328 w _ ?side1 ?side2 A44.out).mono ?_); (case side1 => repeat (first | (with_reducible first | exact HI291.out | apply IsS56.alloc | apply IsS56.drewN | apply IsS56.drew | apply IsS56.set_0 | apply IsS56.set_1 | apply IsS56.set_2) | exact HI291.out)); (case side2 => repeat (first | (with_reducible first | exact HB.out | apply below_alloc | apply pw_below_drewN | apply below_drew1 | refine below_set ?_ (IsS56.ge HI291.out)) | exact HB.out)); rintro e w54 ⟨v323, rfl, ho0, hi, hb, hk⟩; refine ⟨_, rfl, ?_⟩; have n0_ := Aside0.mk (Kd.R_mono (Kd.R_keep (IsS56.apart (show IsS56 w _ g291 x292000_3 x292001_3 x292002_3 from by repeat (first | (with_reducible first | exact HI291.out | apply IsS56.alloc | apply IsS56.drewN | apply IsS56.drew | apply IsS56.set_0 | apply IsS56.set_1 | apply IsS56.set_2) | exact HI291.out)) (by (with_reducible repeat (first | apply Kd.R_alloc | apply Kd.R_drewN | apply Kd.R_drew)); exact HO_5.out) (by first | decide | exact Nat.succ_pos _ | exact ne_of_E rfl (by decide))) hk (fun _ h => h.2)) (fun _ h => h.1)); have n1_ := Aside0.mk (Kd.R_mono (Kd.R_told (Kd.R_oldK (IsS56.apart (show IsS56 w _ g291 x292000_3 x292001_3 x292002_3 from by repeat (first | (with_reducible first | exact HI291.out | apply IsS56.alloc | apply IsS56.drewN | apply IsS56.drew | apply IsS56.set_0 | apply IsS56.set_1 | apply IsS56.set_2) | exact HI291.out)) (by (with_reducible repeat (first | apply Kd.R_alloc | apply Kd.R_drewN | apply Kd.R_drew)); exact HO_8.out) (by first | decide | exact Nat.succ_pos _ | exact ne_of_E rfl (by decide))) hk) (Kd.R_base ho0)) (fun _ h_ => h_.1)); have n2_ := Aside0.mk (Kd.R_lower (Kd.R_new' ho0 (Kd.R_lt (by (with_reducible repeat (first | apply Kd.R_alloc | apply Kd.R_drewN | apply Kd.R_drew)); exact HO_8.out))) (below_size (by repeat (first | (with_reducible first | exact HB.out | apply below_alloc | apply pw_below_drewN | apply below_drew1 | refine below_set ?_ (IsS56.ge HI291.out)) | exact HB.out)))); have n3_ := Aside0.mk (hb); have n4_ := Aside0.mk (hi); clear HO_5; clear HO_8; clear HB; clear HI291; have HO_5 := n0_; have HO_8 := n1_; have HO324 := n2_; have HB := n3_; have HI291 := n4_; clear n0_ n1_ n2_ n3_ n4_; (try clear hb); (try clear hb2); (try clear hk); (try clear hi); (try clear ho0); obtain ⟨Ao56, co56, eo56⟩ := Kd.R_slice HO324.out; subst eo56) | ((with_reducible refine gate_builtin (b := .append) (xs := #[.tmp 68, .tmp 69]) rfl ?_); (try (refine gate_guard (by rfl) ?_; dsimp only)); at_builtin; refine Kd.R_append_rows k37 (w0 := w) w.heap.size rfl (.tmp 68) (.tmp 69) 22 37 (.agg #[(.int .i64 0), (.int .u32 0), (.int .u64 0), (.int .i64 0), (.slice none 0 0), (.string ⟨#[]⟩)]) 72 rfl Try.underlying22 info37 rfl (by first | decide | exact Nat.succ_pos _ | exact ne_of_E rfl (by decide)) (by omega) u8 x8_3 t322 _ _ _ (fun k_ => some k_ ≠ (.slice Ao56 t322.length co56 : Value).ownBlock) (fun _ => False) rfl rfl ?aO ?aR (fun _ _ h => h) (fun _ h => h.elim) ?aF ?aB ?aS ?aL ?_; (case aR => repeat (first | exact (Kd.R_reads' HO324.out).2.2 | (with_reducible refine Kd.C_alloc ?_ _) | (with_reducible refine Kd.C_drewN ?_ _) | (with_reducible refine Kd.C_drew ?_))); (case aB => exact (by repeat (first | (with_reducible first | exact HB.out | apply below_alloc | apply pw_below_drewN | apply below_drew1 | refine below_set ?_ (IsS56.ge HI291.out)) | exact HB.out))); (case aF => exact (fun k_ hk => Kd.fresh' (Kd.R_lt (by (with_reducible repeat (first | apply Kd.R_alloc | apply Kd.R_drewN | apply Kd.R_drew)); exact HO324.out)) k_ hk)); (case aO => exact (by (with_reducible repeat (first | apply Kd.R_alloc | apply Kd.R_drewN | apply Kd.R_drew)); exact Kd.R_mono HO_8.out (fun _ hk => hk.2))); (case aS => exact (below_size (by repeat (first | (with_reducible first | exact HB.out | apply below_alloc | apply pw_below_drewN | apply below_drew1 | refine below_set ?_ (IsS56.ge HI291.out)) | exact HB.out)))); (case aL => have := LMc46.out; omega); intro v330 w55 ho hb hg hat; rw [← Ny329.out] at ho; have n0_ := Aside0.mk (Kd.R_over' (by (with_reducible repeat (first | apply Kd.R_alloc | apply Kd.R_drewN | apply Kd.R_drew)); exact HO_5.out) (Kd.R_typed (by (with_reducible repeat (first | apply Kd.R_alloc | apply Kd.R_drewN | apply Kd.R_drew)); exact HO_8.out)) (by first | decide | exact Nat.succ_pos _ | exact ne_of_E rfl (by decide)) hg); have n1_ := Aside0.mk (IsS56.grown (by repeat (first | (with_reducible first | exact HI291.out | apply IsS56.alloc | apply IsS56.drewN | apply IsS56.drew | apply IsS56.set_0 | apply IsS56.set_1 | apply IsS56.set_2) | exact HI291.out)) hg (IsS56.own_ne HI291.out HO_8.out (by first | decide | exact Nat.succ_pos _ | exact ne_of_E rfl (by decide)))); have n2_ := Aside0.mk (Kd.R_after (ok := (fun _ => True)) (by (with_reducible repeat (first | apply Kd.R_alloc | apply Kd.R_drewN | apply Kd.R_drew)); exact HO324.out) hg hat); have n3_ := Aside0.mk (hb); have n4_ := Aside0.mk (ho); clear HO_5; clear HI291; clear HO324; clear HB; clear HO_8; have HO_5 := n0_; have HI291 := n1_; have HO324 := n2_; have HB := n3_; have HO331 := n4_; clear n0_ n1_ n2_ n3_ n4_; clear ho hb hg hat))
                                        have n0_ := Aside0.mk (Kd.R_drew HO_5.out)
                                        have n1_ := Aside0.mk (Kd.R_drew HO324.out)
                                        have n2_ := Aside0.mk (Kd.R_drew HO331.out)
                                        have n3_ := Aside0.mk (IsS56.drew HI291.out)
                                        have n4_ := Aside0.mk (below_drew1 HB.out)
                                        clear HO_5
                                        clear HO324
                                        clear HO331
                                        clear HI291
                                        clear HB
                                        have HO_5 := n0_
                                        have HO324 := n1_
                                        have HO331 := n2_
                                        have HI291 := n3_
                                        have HB := n4_
                                        clear n0_ n1_ n2_ n3_ n4_
                                        have q58 : (0 : Int) ≤ ((x5_3.length : Int) : Int) := of_decide_eq_true (by first | (with_reducible assumption) | assumption)
                                        obtain ⟨i058, hi058, _, hsz58, _⟩ := info_parts info23
                                        have hroom58 : x5_3.length ≤ co53 := (Kd.R_reads' HO_5.out).2.1
                                        have hC58 : Kd.C (Kd.int .u32) _ (some ad321) x5_3.length x5_3 := (Kd.R_reads' HO_5.out).2.2
                                        have hcut58 := cut_to (P := Try.prog) 35 23 .i64 Try.underlying35 hi058 (some ad321) x5_3.length co53 0 (by omega) q58 hroom58
                                        have hr58 := Kd.C_take (m := 0) hC58 (by omega)
                                        have hy58 : y335.length = (0 : Int).toNat := (by rw [Ny335.out, List.length_take]; omega)
                                        rw [← Ny335.out] at hr58
                                        rw [← hy58] at hcut58
                                        have HR338 := Aside0.mk hr58
                                        have HC338 := Aside0.mk (show y335.length ≤ co53 from by omega)
                                        clear hr58 hC58 hroom58 hi058 hsz58
                                        have KY58 := Aside0.mk hy58
                                        clear hy58
                                        have KL58 := Aside0.mk (show 0 ≤ x5_3.length from by omega)
                                        replace q58 := eq_true q58
                                        have q59 : ((ji49) : Int) ≤ ((x5_3.length : Int) : Int) := of_decide_eq_true (by first | (with_reducible assumption) | assumption)
                                        obtain ⟨i059, hi059, _, hsz59, _⟩ := info_parts info23
                                        have hroom59 : x5_3.length ≤ co53 := (Kd.R_reads' HO_5.out).2.1
                                        have hC59 : Kd.C (Kd.int .u32) _ (some ad321) x5_3.length x5_3 := (Kd.R_reads' HO_5.out).2.2
                                        have q059 : (0 : Int) ≤ ((ji49) : Int) := of_decide_eq_true (by first | (with_reducible assumption) | assumption)
                                        have hcut59 := cut_from (P := Try.prog) 35 23 .i64 Try.underlying35 hi059 1 hsz59 (some ad321) x5_3.length co53 (ji49) q059 q59
                                        have hr59 := Kd.C_drop (m := ((ji49) : Int).toNat) (c := co53) hC59 (by omega) hroom59
                                        obtain ⟨A59, hA59⟩ : ∃ A1, A1 = (if co53 = ((ji49) : Int).toNat then (some ad321) else ((some ad321) : Option Addr).map (·.add (((ji49) : Int).toNat * 1))) := ⟨_, rfl⟩
                                        obtain ⟨c59, hc59⟩ : ∃ c1, c1 = co53 - ((ji49) : Int).toNat := ⟨_, rfl⟩
                                        have hy59 : y342.length = x5_3.length - ((ji49) : Int).toNat := (by rw [Ny342.out, List.length_drop] <;> omega)
                                        rw [show (x5_3).drop ((ji49) : Int).toNat = y342 from Ny342.out.symm] at hr59
                                        replace hr59 : Kd.C (Kd.int .u32) _ A59 y342.length y342 := (by rw [hA59]; exact hr59)
                                        rw [← hy59, ← hA59, ← hc59] at hcut59
                                        have HR345 := Aside0.mk hr59
                                        have HC345 := Aside0.mk (show y342.length ≤ c59 from by rw [hy59, hc59]; exact Nat.sub_le_sub_right hroom59 _)
                                        clear hr59 hC59 hroom59 hi059 hsz59 hc59
                                        have KY59 := Aside0.mk hy59
                                        have KA59 := Aside0.mk hA59
                                        clear hy59 hA59
                                        have KL59 := Aside0.mk (show ((ji49) : Int).toNat ≤ x5_3.length from by omega)
                                        replace q59 := eq_true q59
                                        refine start_ (n := 11) (S := fun w' => True) (ds := []) #[false, false, false, false, false, false, false, false, false, false, false] (by kernel_rfl) rfl rfl trivial (fun hHeld => ?_); refine with_tabW consortlaw10_StreamWhole.tab22 consortlaw10_StreamWhole.bits22 (fun HT_ HW_ => ?_)
                                        generalize w55.drew = w57 at HO_5 HO324 HO331 HI291 HB HR338 HR345 hHeld ⊢
                                        refine pure_ (i := 1) (N := some 72) (v := ?_) (a' := ?_) #[false, true, false, false, false, false, false, false, false, false, false] rfl rfl (any_of HT_.out (by kernel_rfl)) (fun _ _ _ h => h) (Or.inl ⟨by rfl, ?_⟩) ?_ ?_
                                        rotate_left
                                        · intro w'
                                          go_simp
                                          with_reducible rfl
                                        rotate_left
                                        · simp only [Act.put, List.setIfInBounds_toArray, List.set_cons_zero, List.set_cons_succ, i64_w, i32_w]
                                          rfl
                                        refine pure_ (i := 2) (N := some 73) (v := ?_) (a' := ?_) #[false, true, true, false, false, false, false, false, false, false, false] rfl rfl (any_of HT_.out (by kernel_rfl)) (fun _ _ _ h => h) (Or.inl ⟨by rfl, ?_⟩) ?_ ?_
                                        rotate_left
                                        · intro w'
                                          go_simp
                                          with_reducible rfl
                                        rotate_left
                                        · simp only [Act.put, List.setIfInBounds_toArray, List.set_cons_zero, List.set_cons_succ, i64_w, i32_w]
                                          rfl
                                        refine pure_ (i := 3) (N := some 74) (v := ?_) (a' := ?_) #[false, true, true, true, false, false, false, false, false, false, false] rfl rfl (any_of HT_.out (by kernel_rfl)) (fun _ _ _ h => h) (Or.inl ⟨by rfl, ?_⟩) ?_ ?_
                                        rotate_left
                                        · intro w'
                                          go_simp
                                          with_reducible rfl
                                        rotate_left
                                        · simp only [Act.put, List.setIfInBounds_toArray, List.set_cons_zero, List.set_cons_succ, i64_w, i32_w]
                                          rfl
                                        refine pure_ (i := 5) (N := some 76) (v := ?_) (a' := ?_) #[false, true, true, true, false, true, false, false, false, false, false] rfl rfl (any_of HT_.out (by kernel_rfl)) (fun _ _ _ h => h) (Or.inl ⟨by rfl, ?_⟩) ?_ ?_
                                        rotate_left
                                        · intro w'
                                          go_simp
                                          with_reducible rfl
                                        rotate_left
                                        · simp only [Act.put, List.setIfInBounds_toArray, List.set_cons_zero, List.set_cons_succ, i64_w, i32_w]
                                          rfl
                                        refine pure_ (i := 6) (N := some 77) (v := ?_) (a' := ?_) #[false, true, true, true, false, true, true, false, false, false, false] rfl rfl (any_of HT_.out (by kernel_rfl)) (fun _ _ _ h => h) (Or.inl ⟨by rfl, ?_⟩) ?_ ?_
                                        rotate_left
                                        · intro w'
                                          go_simp
                                          with_reducible rfl
                                        rotate_left
                                        · simp only [Act.put, List.setIfInBounds_toArray, List.set_cons_zero, List.set_cons_succ, i64_w, i32_w]
                                          rfl
                                        refine pure_ (i := 7) (N := some 78) (v := ?_) (a' := ?_) #[false, true, true, true, false, true, true, true, false, false, false] rfl rfl (any_of HT_.out (by kernel_rfl)) (fun _ _ _ h => h) (Or.inl ⟨by rfl, ?_⟩) ?_ ?_
                                        rotate_left
                                        · intro w'
                                          go_simp
                                          with_reducible rfl
                                        rotate_left
                                        · simp only [Act.put, List.setIfInBounds_toArray, List.set_cons_zero, List.set_cons_succ, i64_w, i32_w]
                                          rfl
                                        refine pure_ (i := 8) (N := some 79) (v := ?_) (a' := ?_) #[false, true, true, true, false, true, true, true, true, false, false] rfl rfl (any_of HT_.out (by kernel_rfl)) (fun _ _ _ h => h) (Or.inl ⟨by rfl, ?_⟩) ?_ ?_
                                        rotate_left
                                        · intro w'
                                          go_simp
                                          with_reducible rfl
                                        rotate_left
                                        · simp only [Act.put, List.setIfInBounds_toArray, List.set_cons_zero, List.set_cons_succ, i64_w, i32_w]
                                          rfl
                                        refine one_ (i := 0) (N := some 71) #[true, true, true, true, false, true, true, true, true, false, false] rfl rfl (one_of HT_.out (by kernel_rfl)) (by first | decide | exact Nat.succ_pos _ | exact ne_of_E rfl (by decide)) (fun K hK => ?_)
                                        refine Kd.R_lit_step (Kd.int .u32) _ 23 ?hg (N := 71) ?hd (xs := ([] : List Int)) (inner := []) (ok := fun _ => True) (okp := fun _ => True) ?hr ?hp (fun _ hk => hk) trivial (Below.refl _ _) (Nat.le_refl _) (by simp) ?_; (case hd => rfl); (case hg => rfl); (case hr => first | (go_simp; done) | (go_simp; rfl)); (case hp => exact (Reps.none _ _))
                                        intro v333 w60 ho61 hb hg_ hnew_
                                        clear hg_ hnew_
                                        (first | rw [← Ny332.out] at ho61 | (simp only [Int.reduceToNat] at ho61; rw [← Ny332.out] at ho61))
                                        have n0_ := Aside0.mk (Kd.R_elder' (by (with_reducible repeat (first | apply Kd.R_alloc | apply Kd.R_drewN | apply Kd.R_drew)); exact HO_5.out) (Kd.R_base ho61) hb)
                                        have n1_ := Aside0.mk (Kd.R_below (by (with_reducible repeat (first | apply Kd.R_alloc | apply Kd.R_drewN | apply Kd.R_drew)); exact HO324.out) hb)
                                        have n2_ := Aside0.mk (Kd.R_below (by (with_reducible repeat (first | apply Kd.R_alloc | apply Kd.R_drewN | apply Kd.R_drew)); exact HO331.out) hb)
                                        have n3_ := Aside0.mk (Kd.R_lower (Kd.R_new' ho61 (Kd.R_lt (by (with_reducible repeat (first | apply Kd.R_alloc | apply Kd.R_drewN | apply Kd.R_drew)); exact HO_5.out))) (below_size (by repeat (first | (with_reducible first | exact HB.out | apply below_alloc | apply pw_below_drewN | apply below_drew1 | refine below_set ?_ (IsS56.ge HI291.out)) | exact HB.out))))
                                        have n4_ := Aside0.mk (IsS56.below (by repeat (first | (with_reducible first | exact HI291.out | apply IsS56.alloc | apply IsS56.drewN | apply IsS56.drew | apply IsS56.set_0 | apply IsS56.set_1 | apply IsS56.set_2) | exact HI291.out)) hb)
                                        have n5_ := Aside0.mk (Kd.C_below (by repeat (first | (with_reducible exact HR338.out) | (with_reducible refine Kd.C_alloc ?_ _) | (with_reducible refine Kd.C_drewN ?_ _) | (with_reducible refine Kd.C_drew ?_) | exact HR338.out)) hb)
                                        have n6_ := Aside0.mk (Kd.C_below (by repeat (first | (with_reducible exact HR345.out) | (with_reducible refine Kd.C_alloc ?_ _) | (with_reducible refine Kd.C_drewN ?_ _) | (with_reducible refine Kd.C_drew ?_) | exact HR345.out)) hb)
                                        have n7_ := Aside0.mk (below_step (by repeat (first | (with_reducible first | exact HB.out | apply below_alloc | apply pw_below_drewN | apply below_drew1 | refine below_set ?_ (IsS56.ge HI291.out)) | exact HB.out)) hb)
                                        clear HO_5
                                        clear HO324
                                        clear HO331
                                        clear HI291
                                        clear HR338
                                        clear HR345
                                        clear HB
                                        have HO_5 := n0_
                                        have HO324 := n1_
                                        have HO331 := n2_
                                        have HO334 := n3_
                                        have HI291 := n4_
                                        have HR338 := n5_
                                        have HR345 := n6_
                                        have HB := n7_
                                        clear n0_ n1_ n2_ n3_ n4_ n5_ n6_ n7_
                                        clear hb ho61
                                        refine hK.out _ _ trivial (fun hHeld => ?_)
                                        clear hK K
                                        refine norm_ (a' := ?_) ?_ ?_
                                        rotate_left
                                        · show Act.put _ (some 71) _ = _
                                          simp only [Act.put, List.setIfInBounds_toArray, List.set_cons_zero, List.set_cons_succ, i64_w, i32_w]
                                          rfl
                                        refine one_ (i := 4) (N := some 75) #[true, true, true, true, true, true, true, true, true, false, false] rfl rfl (one_of HT_.out (by kernel_rfl)) (by first | decide | exact Nat.succ_pos _ | exact ne_of_E rfl (by decide)) (fun K hK => ?_)
                                        refine Kd.R_append_rows_step (Kd.int .u32) (w0 := w) w.heap.size (by rfl) (.tmp 71) (.tmp 74) 35 23 (.int .u32 0) 4 rfl Try.underlying35 info23 rfl (by first | decide | exact Nat.succ_pos _ | exact ne_of_E rfl (by decide)) (by omega) v333 y332 y335 _ _ _ (fun k_ => some k_ ≠ (.slice (some ad321) x5_3.length co53 : Value).ownBlock) (fun _ => False) rfl rfl ?aO ?aR (fun _ _ h => h) (fun _ h => h.elim) ?aF ?aB ?aS ?aL ?_
                                        (case aR => repeat (first | exact (by repeat (first | (with_reducible exact HR338.out) | (with_reducible refine Kd.C_alloc ?_ _) | (with_reducible refine Kd.C_drewN ?_ _) | (with_reducible refine Kd.C_drew ?_) | exact HR338.out)) | (with_reducible refine Kd.C_alloc ?_ _) | (with_reducible refine Kd.C_drewN ?_ _) | (with_reducible refine Kd.C_drew ?_)))
                                        (case aB => exact (by repeat (first | (with_reducible first | exact HB.out | apply below_alloc | apply pw_below_drewN | apply below_drew1 | refine below_set ?_ (IsS56.ge HI291.out)) | exact HB.out)))
                                        (case aF => exact (fun k_ hk => Kd.fresh' (Kd.R_lt (by (with_reducible repeat (first | apply Kd.R_alloc | apply Kd.R_drewN | apply Kd.R_drew)); exact HO_5.out)) k_ hk))
                                        (case aO => exact (by (with_reducible repeat (first | apply Kd.R_alloc | apply Kd.R_drewN | apply Kd.R_drew)); exact Kd.R_mono HO334.out (fun _ hk => hk.2)))
                                        (case aS => exact (below_size (by repeat (first | (with_reducible first | exact HB.out | apply below_alloc | apply pw_below_drewN | apply below_drew1 | refine below_set ?_ (IsS56.ge HI291.out)) | exact HB.out))))
                                        (case aL => have := LMc48.out; omega)
                                        intro v340 w62 ho hb hg hat
                                        rw [← Ny339.out] at ho
                                        have n0_ := Aside0.mk (Kd.R_after (ok := (fun _ => True)) (by (with_reducible repeat (first | apply Kd.R_alloc | apply Kd.R_drewN | apply Kd.R_drew)); exact HO_5.out) hg hat)
                                        have n1_ := Aside0.mk (IsS56.grown (by repeat (first | (with_reducible first | exact HI291.out | apply IsS56.alloc | apply IsS56.drewN | apply IsS56.drew | apply IsS56.set_0 | apply IsS56.set_1 | apply IsS56.set_2) | exact HI291.out)) hg (IsS56.own_ne HI291.out HO334.out (by first | decide | exact Nat.succ_pos _ | exact ne_of_E rfl (by decide))))
                                        have n2_ := Aside0.mk (Kd.R_over' (by (with_reducible repeat (first | apply Kd.R_alloc | apply Kd.R_drewN | apply Kd.R_drew)); exact HO324.out) (Kd.R_typed (by (with_reducible repeat (first | apply Kd.R_alloc | apply Kd.R_drewN | apply Kd.R_drew)); exact HO334.out)) (by first | decide | exact Nat.succ_pos _ | exact ne_of_E rfl (by decide)) hg)
                                        have n3_ := Aside0.mk (Kd.R_over' (by (with_reducible repeat (first | apply Kd.R_alloc | apply Kd.R_drewN | apply Kd.R_drew)); exact HO331.out) (Kd.R_typed (by (with_reducible repeat (first | apply Kd.R_alloc | apply Kd.R_drewN | apply Kd.R_drew)); exact HO334.out)) (by first | decide | exact Nat.succ_pos _ | exact ne_of_E rfl (by decide)) hg)
                                        have n4_ := Aside0.mk (hb)
                                        have n5_ := Aside0.mk ((show Kd.C (Kd.int .u32) w62 (some ad321) y335.length y335 from by rw [Ny335.out]; exact Kd.C_take (m := 0) ((Kd.R_reads' (Kd.R_after (ok := (fun _ => True)) (by (with_reducible repeat (first | apply Kd.R_alloc | apply Kd.R_drewN | apply Kd.R_drew)); exact HO_5.out) hg hat)).2.2) KL58.out))
                                        have n6_ := Aside0.mk ((show Kd.C (Kd.int .u32) w62 A59 y342.length y342 from by rw [Ny342.out, KA59.out]; exact Kd.C_drop (m := ((ji49) : Int).toNat) (c := co53) ((Kd.R_reads' (Kd.R_after (ok := (fun _ => True)) (by (with_reducible repeat (first | apply Kd.R_alloc | apply Kd.R_drewN | apply Kd.R_drew)); exact HO_5.out) hg hat)).2.2) KL59.out ((Kd.R_reads' (Kd.R_after (ok := (fun _ => True)) (by (with_reducible repeat (first | apply Kd.R_alloc | apply Kd.R_drewN | apply Kd.R_drew)); exact HO_5.out) hg hat)).2.1)))
                                        have n7_ := Aside0.mk (ho)
                                        clear HO_5
                                        clear HI291
                                        clear HO324
                                        clear HO331
                                        clear HB
                                        clear HR338
                                        clear HR345
                                        clear HO334
                                        have HO_5 := n0_
                                        have HI291 := n1_
                                        have HO324 := n2_
                                        have HO331 := n3_
                                        have HB := n4_
                                        have HR338 := n5_
                                        have HR345 := n6_
                                        have HO341 := n7_
                                        clear n0_ n1_ n2_ n3_ n4_ n5_ n6_ n7_
                                        clear ho hb hg hat
                                        refine hK.out _ _ trivial (fun hHeld => ?_)
                                        clear hK K
                                        refine norm_ (a' := ?_) ?_ ?_
                                        rotate_left
                                        · show Act.put _ (some 75) _ = _
                                          simp only [Act.put, List.setIfInBounds_toArray, List.set_cons_zero, List.set_cons_succ, i64_w, i32_w]
                                          rfl
                                        refine one_ (i := 9) (N := some 80) #[true, true, true, true, true, true, true, true, true, true, false] rfl rfl (one_of HT_.out (by kernel_rfl)) (by first | decide | exact Nat.succ_pos _ | exact ne_of_E rfl (by decide)) (fun K hK => ?_)
                                        refine Kd.R_append_rows_step (Kd.int .u32) (w0 := w) w.heap.size (by rfl) (.tmp 75) (.tmp 79) 35 23 (.int .u32 0) 4 rfl Try.underlying35 info23 rfl (by first | decide | exact Nat.succ_pos _ | exact ne_of_E rfl (by decide)) (by omega) v340 y339 y342 _ _ _ (fun k_ => some k_ ≠ (.slice (some ad321) x5_3.length co53 : Value).ownBlock) (fun _ => False) rfl rfl ?aO ?aR (fun _ _ h => h) (fun _ h => h.elim) ?aF ?aB ?aS ?aL ?_
                                        (case aR => repeat (first | exact (by repeat (first | (with_reducible exact HR345.out) | (with_reducible refine Kd.C_alloc ?_ _) | (with_reducible refine Kd.C_drewN ?_ _) | (with_reducible refine Kd.C_drew ?_) | exact HR345.out)) | (with_reducible refine Kd.C_alloc ?_ _) | (with_reducible refine Kd.C_drewN ?_ _) | (with_reducible refine Kd.C_drew ?_)))
                                        (case aB => exact (by repeat (first | (with_reducible first | exact HB.out | apply below_alloc | apply pw_below_drewN | apply below_drew1 | refine below_set ?_ (IsS56.ge HI291.out)) | exact HB.out)))
                                        (case aF => exact (fun k_ hk => Kd.fresh' (Kd.R_lt (by (with_reducible repeat (first | apply Kd.R_alloc | apply Kd.R_drewN | apply Kd.R_drew)); exact HO_5.out)) k_ hk))
                                        (case aO => exact (by (with_reducible repeat (first | apply Kd.R_alloc | apply Kd.R_drewN | apply Kd.R_drew)); exact HO341.out))
                                        (case aS => exact (below_size (by repeat (first | (with_reducible first | exact HB.out | apply below_alloc | apply pw_below_drewN | apply below_drew1 | refine below_set ?_ (IsS56.ge HI291.out)) | exact HB.out))))
                                        (case aL => have := LMc52.out; omega)
                                        intro v347 w63 ho hb hg hat
                                        rw [← Ny346.out] at ho
                                        have n0_ := Aside0.mk (Kd.R_after (ok := (fun _ => True)) (by (with_reducible repeat (first | apply Kd.R_alloc | apply Kd.R_drewN | apply Kd.R_drew)); exact HO_5.out) hg hat)
                                        have n1_ := Aside0.mk (IsS56.grown (by repeat (first | (with_reducible first | exact HI291.out | apply IsS56.alloc | apply IsS56.drewN | apply IsS56.drew | apply IsS56.set_0 | apply IsS56.set_1 | apply IsS56.set_2) | exact HI291.out)) hg (IsS56.own_ne HI291.out HO341.out (by first | decide | exact Nat.succ_pos _ | exact ne_of_E rfl (by decide))))
                                        have n2_ := Aside0.mk (Kd.R_over' (by (with_reducible repeat (first | apply Kd.R_alloc | apply Kd.R_drewN | apply Kd.R_drew)); exact HO324.out) (Kd.R_typed (by (with_reducible repeat (first | apply Kd.R_alloc | apply Kd.R_drewN | apply Kd.R_drew)); exact HO341.out)) (by first | decide | exact Nat.succ_pos _ | exact ne_of_E rfl (by decide)) hg)
                                        have n3_ := Aside0.mk (Kd.R_over' (by (with_reducible repeat (first | apply Kd.R_alloc | apply Kd.R_drewN | apply Kd.R_drew)); exact HO331.out) (Kd.R_typed (by (with_reducible repeat (first | apply Kd.R_alloc | apply Kd.R_drewN | apply Kd.R_drew)); exact HO341.out)) (by first | decide | exact Nat.succ_pos _ | exact ne_of_E rfl (by decide)) hg)
                                        have n4_ := Aside0.mk (hb)
                                        have n5_ := Aside0.mk ((show Kd.C (Kd.int .u32) w63 (some ad321) y335.length y335 from by rw [Ny335.out]; exact Kd.C_take (m := 0) ((Kd.R_reads' (Kd.R_after (ok := (fun _ => True)) (by (with_reducible repeat (first | apply Kd.R_alloc | apply Kd.R_drewN | apply Kd.R_drew)); exact HO_5.out) hg hat)).2.2) KL58.out))
                                        have n6_ := Aside0.mk ((show Kd.C (Kd.int .u32) w63 A59 y342.length y342 from by rw [Ny342.out, KA59.out]; exact Kd.C_drop (m := ((ji49) : Int).toNat) (c := co53) ((Kd.R_reads' (Kd.R_after (ok := (fun _ => True)) (by (with_reducible repeat (first | apply Kd.R_alloc | apply Kd.R_drewN | apply Kd.R_drew)); exact HO_5.out) hg hat)).2.2) KL59.out ((Kd.R_reads' (Kd.R_after (ok := (fun _ => True)) (by (with_reducible repeat (first | apply Kd.R_alloc | apply Kd.R_drewN | apply Kd.R_drew)); exact HO_5.out) hg hat)).2.1)))
                                        have n7_ := Aside0.mk (ho)
                                        clear HO_5
                                        clear HI291
                                        clear HO324
                                        clear HO331
                                        clear HB
                                        clear HR338
                                        clear HR345
                                        clear HO341
                                        have HO_5 := n0_
                                        have HI291 := n1_
                                        have HO324 := n2_
                                        have HO331 := n3_
                                        have HB := n4_
                                        have HR338 := n5_
                                        have HR345 := n6_
                                        have HO348 := n7_
                                        clear n0_ n1_ n2_ n3_ n4_ n5_ n6_ n7_
                                        clear ho hb hg hat
                                        refine hK.out _ _ trivial (fun hHeld => ?_)
                                        clear hK K
                                        refine norm_ (a' := ?_) ?_ ?_
                                        rotate_left
                                        · show Act.put _ (some 80) _ = _
                                          simp only [Act.put, List.setIfInBounds_toArray, List.set_cons_zero, List.set_cons_succ, i64_w, i32_w]
                                          rfl
                                        refine pure_ (i := 10) (N := some 5) (v := ?_) (a' := ?_) #[true, true, true, true, true, true, true, true, true, true, true] rfl rfl (any_of HT_.out (by kernel_rfl)) (fun _ _ _ h => h) (Or.inl ⟨by rfl, ?_⟩) ?_ ?_
                                        rotate_left
                                        · intro w'
                                          go_simp
                                          with_reducible rfl
                                        rotate_left
                                        · simp only [Act.put, List.setIfInBounds_toArray, List.set_cons_zero, List.set_cons_succ, i64_w, i32_w]
                                          rfl
                                        refine done_ (done_of HT_.out (by kernel_rfl)) ?_
                                        try go_wp2
                                        go_roundg k3
                                        case measure => have := HJ4.out; have := HK2.out; have := HK3.out; omega
                                        case rel => exact ⟨(y346), (y329), (wrap64 (x9_3 + 1)), (t326), (t327), (t328), (by first | rfl | (simp; done) | (simp [*]; done)), H', ⟨by have := HJ4.out; have := HK2.out; have := HK3.out; omega⟩, ⟨by (with_reducible repeat (first | apply Kd.R_alloc | apply Kd.R_drewN | apply Kd.R_drew)); exact Kd.R_mono HO348.out (fun _ hk => trivial)⟩, ⟨by (with_reducible repeat (first | apply Kd.R_alloc | apply Kd.R_drewN | apply Kd.R_drew)); exact Kd.R_mono HO331.out (fun _ hk => trivial)⟩, ⟨by repeat (first | (with_reducible first | exact HI291.out | apply IsS56.alloc | apply IsS56.drewN | apply IsS56.drew | apply IsS56.set_0 | apply IsS56.set_1 | apply IsS56.set_2) | exact HI291.out)⟩, ⟨by repeat (first | (with_reducible first | exact HB.out | apply below_alloc | apply pw_below_drewN | apply below_drew1 | refine below_set ?_ (IsS56.ge HI291.out)) | exact HB.out)⟩⟩
                                      · rw [if_neg c52] at H
                                        exact absurd H (by simp)
                                    · rw [if_neg c51] at H
                                      exact absurd H (by simp)
                                  · rw [if_neg c50] at H
                                    exact absurd H (by simp)
                                · rw [if_neg c48] at H
                                  exact absurd H (by simp)
                              · rw [if_neg c47] at H
                                exact absurd H (by simp)
                            · rw [if_neg c46] at H
                              exact absurd H (by simp)
                          · rw [if_neg c45] at H
                            have c45b0 : (t325 == 0) = false := beq_eq_false_iff_ne.mpr c45
                            have c45b1 : (t325 != 0) = true := bne_iff_ne.mpr c45
                            exact absurd H (by simp)
                        · rw [if_neg c43] at H
                          exact absurd H (by simp)
                    · rw [if_neg c15] at H
                      have c15b0 : decide (0 < (x5_3.length : Int)) = false := decide_eq_false c15
                      have c15b1 : decide (0 < x5_3.length) = false := decide_eq_false (by omega)
                      clear c15
                      have H' := Aside0.mk H
                      clear H
                      obtain ⟨Ao64, co64, eo64⟩ := Kd.R_slice HO_5.out
                      subst eo64
                      go_wp2
                      go_loopg [13] k3 (fun kq v13 w' => ∃ (x13_4 : Int), v13 = .int .i64 x13_4 ∧ Aside0 (consortlaw10_StreamWhole.l2 kq a0 x8_3 x13_4 x292000_3 x292001_3 x292002_3 = some true) ∧ Aside0 (kq ≤ k3) ∧ Aside0 (Kd.R k37 37 w' w.heap.size (fun _ => True) u8 x8_3) ∧ Aside0 (IsS56 w w' g291 x292000_3 x292001_3 x292002_3) ∧ Aside0 (Below w.heap.size w w'))
                      case atStart => exact ⟨(0), (by first | rfl | (simp; done) | (simp [*]; done)), H', ⟨Nat.le_refl _⟩, ⟨by (with_reducible repeat (first | apply Kd.R_alloc | apply Kd.R_drewN | apply Kd.R_drew)); exact HO_8.out⟩, ⟨by repeat (first | (with_reducible first | exact HI291.out | apply IsS56.alloc | apply IsS56.drewN | apply IsS56.drew | apply IsS56.set_0 | apply IsS56.set_1 | apply IsS56.set_2) | exact HI291.out)⟩, ⟨by repeat (first | (with_reducible first | exact HB.out | apply below_alloc | apply pw_below_drewN | apply below_drew1 | refine below_set ?_ (IsS56.ge HI291.out)) | exact HB.out)⟩⟩
                      case round =>
                        clear H'
                        try clear c1
                        try clear c2
                        try clear p2
                        try clear c3
                        try clear p3
                        try clear q3
                        try clear hx3
                        try clear qi3
                        try clear c4
                        try clear c5
                        try clear q5
                        try clear p6
                        try clear c11
                        try clear c15
                        try clear c15b0
                        try clear c15b1
                        try clear c16
                        try clear c16b0
                        try clear c17
                        try clear c20
                        try clear c21
                        try clear c23
                        try clear c23b0
                        try clear c23b1
                        try clear c24
                        try clear c26
                        try clear c27
                        try clear c29
                        try clear c30
                        try clear c31
                        try clear p32
                        try clear q32
                        try clear hx32
                        try clear qi32
                        try clear c38
                        try clear q38
                        try clear c43
                        try clear c43b0
                        try clear c43b1
                        try clear c45
                        try clear c45b0
                        try clear c45b1
                        try clear c46
                        try clear c47
                        try clear c47b0
                        try clear c47b1
                        try clear c48
                        try clear c50
                        try clear c50b0
                        try clear c50b1
                        try clear c51
                        try clear c51b0
                        try clear c51b1
                        try clear c52
                        try clear q58
                        try clear c59
                        try clear q59
                        try clear p64
                        try clear hx321_0
                        try clear p321
                        try clear q038
                        try clear q059
                        try clear q321
                        try clear q38
                        try clear q58
                        try clear q59
                        obtain ⟨x13_4, rfl, HA, HK4, HO_8, HI291, HB⟩ := hrel
                        cases gk with
                        | zero => exact absurd HA.out (by simp [consortlaw10_StreamWhole.l2])
                        | succ k4 =>
                          have H := HA.out
                          clear HA
                          simp only [consortlaw10_StreamWhole.l2] at H
                          by_cases c65 : x13_4 < (x8_3.length : Int)
                          · rw [if_pos c65] at H
                            have c65b0 : decide (x13_4 < (x8_3.length : Int)) = true := decide_eq_true c65
                            clear c65
                            by_cases c66 : 0 ≤ x13_4
                            · rw [if_pos c66] at H
                              have c66b0 : decide (0 ≤ x13_4) = true := decide_eq_true c66
                              clear c66
                              by_cases c67 : ((rd_T37 x8_3 x13_4).f1) = ((wrap64 (x13_4 + 1)) % 4294967296)
                              · rw [if_pos c67] at H
                                have c67b0 : (((rd_T37 x8_3 x13_4).f1) == ((wrap64 (x13_4 + 1)) % 4294967296)) = true := beq_iff_eq.mpr c67
                                have c67b1 : (((rd_T37 x8_3 x13_4).f1) != ((wrap64 (x13_4 + 1)) % 4294967296)) = false := bne_eq_false_iff_eq.mpr c67
                                clear c67
                                have H' := Aside0.mk H
                                clear H
                                obtain ⟨Ao68, co68, eo68⟩ := Kd.R_slice HO_8.out
                                subst eo68
                                have p349 : 0 ≤ (x13_4 : Int) := of_decide_eq_true (by first | (with_reducible assumption) | assumption)
                                have q349 : x13_4 < (x8_3.length : Int) := of_decide_eq_true (by first | (with_reducible assumption) | assumption)
                                obtain ⟨ad349, e349, hx349_0, hx349_1, hx349_2, hx349_3, hx349_4, hx349_5⟩ := at_T37 (Kd.R_reads' HO_8.out).2.2 x13_4 p349 q349
                                cases e349
                                replace p349 := eq_true p349
                                replace q349 := eq_true q349
                                go_wp2
                                go_roundg k4
                                case measure => have := HJ4.out; have := HK2.out; have := HK3.out; have := HK4.out; omega
                                case rel => exact ⟨(wrap64 (x13_4 + 1)), (by first | rfl | (simp; done) | (simp [*]; done)), H', ⟨by have := HJ4.out; have := HK2.out; have := HK3.out; have := HK4.out; omega⟩, ⟨by (with_reducible repeat (first | apply Kd.R_alloc | apply Kd.R_drewN | apply Kd.R_drew)); exact HO_8.out⟩, ⟨by repeat (first | (with_reducible first | exact HI291.out | apply IsS56.alloc | apply IsS56.drewN | apply IsS56.drew | apply IsS56.set_0 | apply IsS56.set_1 | apply IsS56.set_2) | exact HI291.out)⟩, ⟨by repeat (first | (with_reducible first | exact HB.out | apply below_alloc | apply pw_below_drewN | apply below_drew1 | refine below_set ?_ (IsS56.ge HI291.out)) | exact HB.out)⟩⟩
                              · rw [if_neg c67] at H
                                have c67b0 : (((rd_T37 x8_3 x13_4).f1) == ((wrap64 (x13_4 + 1)) % 4294967296)) = false := beq_eq_false_iff_ne.mpr c67
                                have c67b1 : (((rd_T37 x8_3 x13_4).f1) != ((wrap64 (x13_4 + 1)) % 4294967296)) = true := bne_iff_ne.mpr c67
                                exact absurd H (by simp)
                            · rw [if_neg c66] at H
                              exact absurd H (by simp)
                          · rw [if_neg c65] at H
                            have c65b0 : decide (x13_4 < (x8_3.length : Int)) = false := decide_eq_false c65
                            clear c65
                            by_cases c69 : (x8_3.length : Int) = a0
                            · rw [if_pos c69] at H
                              have c69b0 : ((x8_3.length : Int) == a0) = true := beq_iff_eq.mpr c69
                              have c69b1 : ((x8_3.length : Int) != a0) = false := bne_eq_false_iff_eq.mpr c69
                              clear c69
                              replace H := Option.bind_eq_some_iff.mp H
                              obtain ⟨⟨t350, t351, t352, t353⟩, A700, H⟩ := H
                              replace H : (if t350 = 0 then ((stream_Count.f t351 t352 t353).bind fun bt354 => (some ((wrap64 (bt354.1)) == a0))) else (some false)) = some true := H
                              have A70 := Aside0.mk A700
                              clear A700
                              by_cases c71 : t350 = 0
                              · rw [if_pos c71] at H
                                have c71b0 : (t350 == 0) = true := beq_iff_eq.mpr c71
                                have c71b1 : (t350 != 0) = false := bne_eq_false_iff_eq.mpr c71
                                clear c71
                                replace H := Option.bind_eq_some_iff.mp H
                                obtain ⟨⟨t354, t355, t356, t357⟩, A720, H⟩ := H
                                replace H : (some ((wrap64 (t354)) == a0)) = some true := H
                                have A72 := Aside0.mk A720
                                clear A720
                                have hres_ : (((wrap64 (t354)) == a0)) = true := Option.some.inj H
                                obtain ⟨Ao73, co73, eo73⟩ := Kd.R_slice HO_8.out
                                subst eo73
                                go_wp2_with (first | (go_at_call 17; (with_reducible refine (stream_Held.calls g291 x292000_3 x292001_3 x292002_3 t350 t351 t352 t353 w _ ?side1 ?side2 A70.out).mono ?_); (case side1 => repeat (first | (with_reducible first | exact HI291.out | apply IsS56.alloc | apply IsS56.drewN | apply IsS56.drew | apply IsS56.set_0 | apply IsS56.set_1 | apply IsS56.set_2) | exact HI291.out)); (case side2 => repeat (first | (with_reducible first | exact HB.out | apply below_alloc | apply pw_below_drewN | apply below_drew1 | refine below_set ?_ (IsS56.ge HI291.out)) | exact HB.out)); rintro e w74 ⟨rfl, hi, hb, hk⟩; have n0_ := Aside0.mk (Kd.R_mono (Kd.R_keep (IsS56.apart (show IsS56 w _ g291 x292000_3 x292001_3 x292002_3 from by repeat (first | (with_reducible first | exact HI291.out | apply IsS56.alloc | apply IsS56.drewN | apply IsS56.drew | apply IsS56.set_0 | apply IsS56.set_1 | apply IsS56.set_2) | exact HI291.out)) (by (with_reducible repeat (first | apply Kd.R_alloc | apply Kd.R_drewN | apply Kd.R_drew)); exact HO_8.out) (by first | decide | exact Nat.succ_pos _ | exact ne_of_E rfl (by decide))) hk (fun _ h => h.2)) (fun _ h => h.1)); have n1_ := Aside0.mk (hb); have n2_ := Aside0.mk (hi); clear HO_8; clear HB; clear HI291; have HO_8 := n0_; have HB := n1_; have HI291 := n2_; clear n0_ n1_ n2_; (try clear hb); (try clear hb2); (try clear hk); (try clear hi)) | (go_at_call 16; (with_reducible refine (stream_Count.calls g291 t351 t352 t353 t354 t355 t356 t357 w _ ?side1 ?side2 A72.out).mono ?_); (case side1 => repeat (first | (with_reducible first | exact HI291.out | apply IsS56.alloc | apply IsS56.drewN | apply IsS56.drew | apply IsS56.set_0 | apply IsS56.set_1 | apply IsS56.set_2) | exact HI291.out)); (case side2 => repeat (first | (with_reducible first | exact HB.out | apply below_alloc | apply pw_below_drewN | apply below_drew1 | refine below_set ?_ (IsS56.ge HI291.out)) | exact HB.out)); rintro e w75 ⟨rfl, hi, hb, hk⟩; have n0_ := Aside0.mk (Kd.R_mono (Kd.R_keep (IsS56.apart (show IsS56 w _ g291 t351 t352 t353 from by repeat (first | (with_reducible first | exact HI291.out | apply IsS56.alloc | apply IsS56.drewN | apply IsS56.drew | apply IsS56.set_0 | apply IsS56.set_1 | apply IsS56.set_2) | exact HI291.out)) (by (with_reducible repeat (first | apply Kd.R_alloc | apply Kd.R_drewN | apply Kd.R_drew)); exact HO_8.out) (by first | decide | exact Nat.succ_pos _ | exact ne_of_E rfl (by decide))) hk (fun _ h => h.2)) (fun _ h => h.1)); have n1_ := Aside0.mk (hb); have n2_ := Aside0.mk (hi); clear HO_8; clear HB; clear HI291; have HO_8 := n0_; have HB := n1_; have HI291 := n2_; clear n0_ n1_ n2_; (try clear hb); (try clear hb2); (try clear hk); (try clear hi)))
                                go_ret
                                exact ⟨by first | rfl | (simp [errW_none, errW_some] <;> rfl) | (simp [*, errW_none, errW_some] <;> rfl), by repeat (first | (with_reducible first | exact HB.out | apply below_alloc | apply pw_below_drewN | apply below_drew1 | refine below_set ?_ (IsS56.ge HI291.out)) | exact HB.out)⟩
                              · rw [if_neg c71] at H
                                have c71b0 : (t350 == 0) = false := beq_eq_false_iff_ne.mpr c71
                                have c71b1 : (t350 != 0) = true := bne_iff_ne.mpr c71
                                exact absurd H (by simp)
                            · rw [if_neg c69] at H
                              have c69b0 : ((x8_3.length : Int) == a0) = false := beq_eq_false_iff_ne.mpr c69
                              have c69b1 : ((x8_3.length : Int) != a0) = true := bne_iff_ne.mpr c69
                              exact absurd H (by simp)
  · replace c4 := Bool.eq_false_iff.mpr c4
    subst c4
    have H1 : (some false) = some true := by first | (rw [if_neg (show ¬ (false = true) by decide)] at H; done) | (rw [if_neg (show ¬ (false = true) by decide)] at H; exact H)
    clear H
    have H := H1
    clear H1
    exact absurd H (by simp)

/-- THE ONE PURE STATEMENT of consortlaw10_StreamWhole: yours. -/
def consortlaw10_StreamWhole.Pure : Prop := ∀ (a0 : Int) (l1 : List Int), (Lit.int .i64 a0).wf = true → l1.length ≤ maxLen → l1.length * 2 ≤ 140737488351232 → (∀ x ∈ l1, (Lit.int .u16 x).wf = true) → ∃ k, consortlaw10_StreamWhole.f k a0 l1 = some true
theorem consortlaw10_StreamWhole.walk (P : consortlaw10_StreamWhole.Pure) (a0 : Int) (a1 : Option Addr) (len1 cap1 : Nat) (z1 : List Int) (w : World) (w0 : (Lit.int .i64 a0).wf = true) (w1 : (a1 = none ∧ len1 = 0 ∧ cap1 = 0 ∧ z1 = []) ∨ ∃ x, a1 = some x ∧ len1 ≤ cap1 ∧ cap1 ≤ maxLen ∧ z1.length = cap1 ∧ (∀ i, i < z1.length → w.cell? (x.add i) = some (.int .u16 (z1.getD i 0))) ∧ ∀ n ∈ z1, (Lit.int .u16 n).wf = true) (y1 : len1 * 2 ≤ 140737488351232) :
    Calls Try.prog 5 #[.int .i64 a0, .slice a1 len1 cap1] w fun e w' => e = .returned (.bool true) ∧ Below w.heap.size w w' := by
  obtain ⟨l1, rfl, hr1, hm1, hw1, hc1⟩ := ReadsInt.ofRowC w1
  obtain ⟨k, h⟩ := P a0 l1 w0 hm1 y1 hw1
  refine (consortlaw10_StreamWhole.calls k a0 _ _ l1 w (Kd.C_of_reads (d := (0 : Int)) (h1 := fun _ => rfl) hr1) hc1 h).mono ?_
  rintro e w' ⟨rfl, hd⟩
  exact ⟨rfl, hd⟩

end Go.Proofs.Ytmedahgbmebegaa.P
