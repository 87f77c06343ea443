-- Written by our own program (wip/pr) over the kit's print.py, with contracts of our own.
import Derived.Test.YtjolbpfileiipaaPx0
import Derived.Test.YtjolbpfileiipaaPx1
import Derived.Test.YtjolbpfileiipaaHandV
namespace Go.Proofs.Ytjolbpfileiipaa.P
open Go.RowKit Go.Proofs.YtjolbpfileiipaaW.PrintWords Go.Proofs.YtjolbpfileiipaaW.PrintLast Go.Proofs.YtjolbpfileiipaaW.PrintMore
attribute [local go_sem] max2_int min2_int max_two min_two max_three min_three max_four min_four   -- for this text's walks alone
set_option linter.unusedVariables false
set_option linter.unusedSimpArgs false

/-! ### consortref01_Get: function 12 -/
mutual
def consortref01_Get.j0 : Nat → ByteArray → Int → Int → Bool → Option (Int × Bool)
  | 0, _, _, _, _ => none
  | k + 1, x0, x1, x2, x33 => if x33 = true then (some (0, false)) else (consortref01_Get.l0 k x0 x1 x2 0 x1)
def consortref01_Get.l0 : Nat → ByteArray → Int → Int → Int → Int → Option (Int × Bool)
  | 0, _, _, _, _, _ => none
  | k + 1, x0, x1, x2, x8, x9 => if x9 < (wrap64 (x1 + x2)) then (if 0 ≤ x9 then (if x9 < (x0.size : Int) then (consortref01_Get.l0 k x0 x1 x2 (IntKind.u64.wrap ((IntKind.u64.wrap (x8 * 256)) + (IntKind.u64.wrap (bt x0 x9)))) (wrap64 (x9 + 1))) else (none)) else (none)) else (some (x8, true))
end
def consortref01_Get.f (k : Nat) (a0 : ByteArray) (a1 : Int) (a2 : Int) : Option (Int × Bool) := if a2 < 1 then (consortref01_Get.j0 k a0 a1 a2 true) else (if a2 > 8 then (consortref01_Get.j0 k a0 a1 a2 true) else (if a1 < 0 then (consortref01_Get.j0 k a0 a1 a2 true) else (if a1 > (a0.size : Int) then (consortref01_Get.j0 k a0 a1 a2 true) else (consortref01_Get.j0 k a0 a1 a2 (decide ((wrap64 ((a0.size : Int) - a1)) < a2))))))
theorem consortref01_Get.mono_l : ∀ k, (∀ y0 y1 y2 y3, LeO (consortref01_Get.j0 k y0 y1 y2 y3) (consortref01_Get.j0 (k + 1) y0 y1 y2 y3)) ∧ (∀ y0 y1 y2 y3 y4, LeO (consortref01_Get.l0 k y0 y1 y2 y3 y4) (consortref01_Get.l0 (k + 1) y0 y1 y2 y3 y4))
  | 0 => ⟨fun _ _ _ _ r h => by simp [consortref01_Get.j0] at h, fun _ _ _ _ _ r h => by simp [consortref01_Get.l0] at h⟩
  | k + 1 => by
    obtain ⟨ih0, ih1⟩ := consortref01_Get.mono_l k
    refine ⟨?_, ?_⟩
    · intro y0 y1 y2 y3
      unfold consortref01_Get.j0
      repeat' first
      | (with_reducible exact ih0 _ _ _ _)
      | (with_reducible exact ih1 _ _ _ _ _)
      | (with_reducible exact LeO.refl _)
      | (with_reducible exact LeO.none _)
      | (with_reducible refine LeO.ite ?_ ?_)
      | (with_reducible refine LeO.bind ?_ (fun _ => ?_))
      | exact ih0 _ _ _ _
      | exact ih1 _ _ _ _ _
      | exact LeO.none _
      | refine LeO.ite ?_ ?_
      | refine LeO.bind ?_ (fun _ => ?_)
    · intro y0 y1 y2 y3 y4
      unfold consortref01_Get.l0
      repeat' first
      | (with_reducible exact ih0 _ _ _ _)
      | (with_reducible exact ih1 _ _ _ _ _)
      | (with_reducible exact LeO.refl _)
      | (with_reducible exact LeO.none _)
      | (with_reducible refine LeO.ite ?_ ?_)
      | (with_reducible refine LeO.bind ?_ (fun _ => ?_))
      | exact ih0 _ _ _ _
      | exact ih1 _ _ _ _ _
      | exact LeO.none _
      | refine LeO.ite ?_ ?_
      | refine LeO.bind ?_ (fun _ => ?_)
theorem consortref01_Get.mono : ∀ a0 a1 a2 k, LeO (consortref01_Get.f k a0 a1 a2) (consortref01_Get.f (k + 1) a0 a1 a2) := by
  intro a0 a1 a2 k
  obtain ⟨ih0, ih1⟩ := consortref01_Get.mono_l k
  unfold consortref01_Get.f
  repeat' first
      | (with_reducible exact ih0 _ _ _ _)
      | (with_reducible exact ih1 _ _ _ _ _)
      | (with_reducible exact LeO.refl _)
      | (with_reducible exact LeO.none _)
      | (with_reducible refine LeO.ite ?_ ?_)
      | (with_reducible refine LeO.bind ?_ (fun _ => ?_))
      | exact ih0 _ _ _ _
      | exact ih1 _ _ _ _ _
      | exact LeO.none _
      | refine LeO.ite ?_ ?_
      | refine LeO.bind ?_ (fun _ => ?_)
set_option maxHeartbeats 8000000 in
set_option maxRecDepth 100000 in
theorem consortref01_Get.calls (k : Nat) (a0 : ByteArray) (a1 : Int) (a2 : Int) (r1 : Int) (r2 : Bool) (w : World) (h : consortref01_Get.f k a0 a1 a2 = some (r1, r2)) :
    Calls Try.prog 12 #[.string a0, .int .i64 a1, .int .i64 a2] w fun e w' => e = .returned (.tuple #[.int .u64 r1, .bool r2]) ∧ Drawn0 w w' := by
  have H : (if a2 < 1 then (consortref01_Get.j0 k a0 a1 a2 true) else (if a2 > 8 then (consortref01_Get.j0 k a0 a1 a2 true) else (if a1 < 0 then (consortref01_Get.j0 k a0 a1 a2 true) else (if a1 > (a0.size : Int) then (consortref01_Get.j0 k a0 a1 a2 true) else (consortref01_Get.j0 k a0 a1 a2 (decide ((wrap64 ((a0.size : Int) - a1)) < a2))))))) = some (r1, r2) := h
  clear h
  have HC4 := Aside0.mk H
  clear H
  go_enter Try.func12, Try.ntmps12
  go_upto_region 1 with (fail)
  go_cut [33] (fun v33 wc => ∃ (kq : Nat) (x33_3 : Bool), v33 = .bool x33_3 ∧ Aside0 (consortref01_Get.j0 kq a0 a1 a2 x33_3 = some (r1, r2)) ∧ Aside0 (kq ≤ k) ∧ Drawn0 w wc)
  case first =>
    have H := HC4.out
    clear HC4
    by_cases c5 : a2 < 1
    · rw [if_pos c5] at H
      have c5b0 : decide (a2 < 1) = true := decide_eq_true c5
      clear c5
      (first | rw [c5b0] | (simp only [i64_w, i32_w]; rw [c5b0]) | skip)
      have H' := Aside0.mk H
      clear H
      go_wp2
      go_meet
      case rel => exact ⟨_, (true), (by first | rfl | (simp; done) | (simp [*]; done)), H', ⟨by first | omega | exact Nat.le_refl _⟩, by repeat (first | exact Drawn0.refl _ | apply Drawn0.step)⟩
    · rw [if_neg c5] at H
      have c5b0 : decide (a2 < 1) = false := decide_eq_false c5
      clear c5
      (first | rw [c5b0] | (simp only [i64_w, i32_w]; rw [c5b0]) | skip)
      by_cases c6 : a2 > 8
      · rw [if_pos c6] at H
        have c6b0 : decide (8 < a2) = true := decide_eq_true c6
        clear c6
        have H' := Aside0.mk H
        clear H
        go_wp2
        go_meet
        case rel => exact ⟨_, (true), (by first | rfl | (simp; done) | (simp [*]; done)), H', ⟨by first | omega | exact Nat.le_refl _⟩, by repeat (first | exact Drawn0.refl _ | apply Drawn0.step)⟩
      · rw [if_neg c6] at H
        have c6b0 : decide (8 < a2) = false := decide_eq_false c6
        clear c6
        by_cases c7 : a1 < 0
        · rw [if_pos c7] at H
          have c7b0 : decide (a1 < 0) = true := decide_eq_true c7
          clear c7
          have H' := Aside0.mk H
          clear H
          go_wp2
          go_meet
          case rel => exact ⟨_, (true), (by first | rfl | (simp; done) | (simp [*]; done)), H', ⟨by first | omega | exact Nat.le_refl _⟩, by repeat (first | exact Drawn0.refl _ | apply Drawn0.step)⟩
        · rw [if_neg c7] at H
          have c7b0 : decide (a1 < 0) = false := decide_eq_false c7
          clear c7
          by_cases c8 : a1 > (a0.size : Int)
          · rw [if_pos c8] at H
            have c8b0 : decide ((a0.size : Int) < a1) = true := decide_eq_true c8
            clear c8
            have H' := Aside0.mk H
            clear H
            go_wp2
            go_meet
            case rel => exact ⟨_, (true), (by first | rfl | (simp; done) | (simp [*]; done)), H', ⟨by first | omega | exact Nat.le_refl _⟩, by repeat (first | exact Drawn0.refl _ | apply Drawn0.step)⟩
          · rw [if_neg c8] at H
            have c8b0 : decide ((a0.size : Int) < a1) = false := decide_eq_false c8
            clear c8
            have H' := Aside0.mk H
            clear H
            go_wp2
            go_meet
            case rel => exact ⟨_, (decide ((wrap64 ((a0.size : Int) - a1)) < a2)), (by first | rfl | (simp; done) | (simp [*]; done)), H', ⟨by first | omega | exact Nat.le_refl _⟩, by repeat (first | exact Drawn0.refl _ | apply Drawn0.step)⟩
  case rest =>
    clear HC4
    try clear c1
    try clear p2
    try clear c5
    try clear c5b0
    try clear c6
    try clear c6b0
    try clear p6
    try clear c7
    try clear c7b0
    try clear c8
    try clear c8b0
    obtain ⟨kq, x33_3, rfl, HA, HJ3, ⟨mc3, rfl⟩⟩ := hcut
    cases kq with
    | zero => exact absurd HA.out (by simp [consortref01_Get.j0])
    | succ kj3 =>
      have H := HA.out
      clear HA
      simp only [consortref01_Get.j0] at H
      by_cases c9 : x33_3 = true
      · subst c9
        have H1 : (some (0, false)) = some (r1, r2) := by first | (rw [if_pos rfl] at H; done) | (rw [if_pos rfl] at H; exact H)
        clear H
        have H := H1
        clear H1
        simp only [Option.some.injEq, Prod.mk.injEq] at H
        obtain ⟨rfl, rfl⟩ := H
        go_wp2
        go_ret2
        exact ⟨by first | rfl | (simp; done) | (simp [*]; done), by repeat (first | exact Drawn0.refl _ | apply Drawn0.step)⟩
      · replace c9 := Bool.eq_false_iff.mpr c9
        subst c9
        have H1 : (consortref01_Get.l0 kj3 a0 a1 a2 0 a1) = some (r1, r2) := by first | (rw [if_neg (show ¬ (false = true) by decide)] at H; done) | (rw [if_neg (show ¬ (false = true) by decide)] at H; exact H)
        clear H
        have H := H1
        clear H1
        have H' := Aside0.mk H
        clear H
        go_wp2
        go_loopg [8, 9] kj3 (fun kq v8 v9 w' => ∃ (x8_2 : Int) (x9_2 : Int), v8 = .int .u64 x8_2 ∧ v9 = .int .i64 x9_2 ∧ Aside0 (consortref01_Get.l0 kq a0 a1 a2 x8_2 x9_2 = some (r1, r2)) ∧ Aside0 (kq ≤ kj3) ∧ Drawn0 w w')
        case atStart => exact ⟨(0), (a1), (by first | rfl | (simp; done) | (simp [*]; done)), (by first | rfl | (simp; done) | (simp [*]; done)), H', ⟨Nat.le_refl _⟩, by repeat (first | exact Drawn0.refl _ | apply Drawn0.step)⟩
        case round =>
          clear H'
          try clear c1
          try clear p2
          try clear c3
          try clear c5
          try clear c5b0
          try clear c6
          try clear c6b0
          try clear p6
          try clear c7
          try clear c7b0
          try clear c8
          try clear c8b0
          try clear c9
          try clear p2
          try clear p6
          obtain ⟨x8_2, x9_2, rfl, rfl, HA, HK2, ⟨m2, rfl⟩⟩ := hrel
          cases gk with
          | zero => exact absurd HA.out (by simp [consortref01_Get.l0])
          | succ k2 =>
            have H := HA.out
            clear HA
            simp only [consortref01_Get.l0] at H
            by_cases c10 : x9_2 < (wrap64 (a1 + a2))
            · rw [if_pos c10] at H
              have c10b0 : decide (x9_2 < (wrap64 (a1 + a2))) = true := decide_eq_true c10
              clear c10
              by_cases c11 : 0 ≤ x9_2
              · rw [if_pos c11] at H
                have c11b0 : decide (0 ≤ x9_2) = true := decide_eq_true c11
                clear c11
                by_cases c12 : x9_2 < (a0.size : Int)
                · rw [if_pos c12] at H
                  have c12b0 : decide (x9_2 < (a0.size : Int)) = true := decide_eq_true c12
                  clear c12
                  have H' := Aside0.mk H
                  clear H
                  have p13 : 0 ≤ (x9_2 : Int) := of_decide_eq_true (by first | (with_reducible assumption) | assumption)
                  have q13 : x9_2 < (a0.size : Int) := of_decide_eq_true (by first | (with_reducible assumption) | assumption)
                  have hx13 := bt_at a0 x9_2
                  replace p13 := eq_true p13
                  replace q13 := eq_true q13
                  go_wp2
                  go_roundg k2
                  case measure => have := HJ3.out; have := HK2.out; omega
                  case rel => exact ⟨(IntKind.u64.wrap ((IntKind.u64.wrap (x8_2 * 256)) + (IntKind.u64.wrap (bt a0 x9_2)))), (wrap64 (x9_2 + 1)), (by first | rfl | (simp; done) | (simp [*]; done)), (by first | rfl | (simp; done) | (simp [*]; done)), H', ⟨by have := HJ3.out; have := HK2.out; omega⟩, by repeat (first | exact Drawn0.refl _ | apply Drawn0.step)⟩
                · rw [if_neg c12] at H
                  exact absurd H (by simp)
              · rw [if_neg c11] at H
                exact absurd H (by simp)
            · rw [if_neg c10] at H
              have c10b0 : decide (x9_2 < (wrap64 (a1 + a2))) = false := decide_eq_false c10
              clear c10
              simp only [Option.some.injEq, Prod.mk.injEq] at H
              obtain ⟨rfl, rfl⟩ := H
              go_wp2
              go_ret2
              exact ⟨by first | rfl | (simp; done) | (simp [*]; done), by repeat (first | exact Drawn0.refl _ | apply Drawn0.step)⟩

/-! ### consortref01_Sum: function 14 -/
def consortref01_Sum.f (a0 : Int) (a1 : Int) : Option (Int) := if (IntKind.u64.wrap (a0 + a1)) < a0 then (some 18446744073709551615) else (some (IntKind.u64.wrap (a0 + a1)))
set_option maxHeartbeats 8000000 in
set_option maxRecDepth 100000 in
theorem consortref01_Sum.calls (a0 : Int) (a1 : Int) (r : Int) (w : World) (h : consortref01_Sum.f a0 a1 = some r) :
    Calls Try.prog 14 #[.int .u64 a0, .int .u64 a1] w fun e w' => e = .returned (.int .u64 r) ∧ Drawn0 w w' := by
  have H : (if (IntKind.u64.wrap (a0 + a1)) < a0 then (some 18446744073709551615) else (some (IntKind.u64.wrap (a0 + a1)))) = some r := h
  clear h
  by_cases c3 : (IntKind.u64.wrap (a0 + a1)) < a0
  · rw [if_pos c3] at H
    have c3b0 : decide ((IntKind.u64.wrap (a0 + a1)) < a0) = true := decide_eq_true c3
    clear c3
    obtain rfl := Option.some.inj H
    go_enter Try.func14, Try.ntmps14
    go_wp2
    go_ret
    exact ⟨by first | rfl | (simp; done) | (simp [*]; done), by repeat (first | exact Drawn0.refl _ | apply Drawn0.step)⟩
  · rw [if_neg c3] at H
    have c3b0 : decide ((IntKind.u64.wrap (a0 + a1)) < a0) = false := decide_eq_false c3
    clear c3
    obtain rfl := Option.some.inj H
    go_enter Try.func14, Try.ntmps14
    go_wp2
    go_ret
    exact ⟨by first | rfl | (simp; done) | (simp [*]; done), by repeat (first | exact Drawn0.refl _ | apply Drawn0.step)⟩

/-! ### consortlaw01_NumGets: function 4 -/
def consortlaw01_NumGets.f (k : Nat) (a0 : ByteArray) (a1 : Int) (a2 : Int) (a3 : Int) (a4 : Int) : Option (Bool) := (consortlaw01_awake.f k).bind fun t143 => (if t143 = true then (if (a0.size : Int) > 20000 then (some true) else ((num_Get.f a0 a1 a2).bind fun bt144 => ((consortref01_Get.f k a0 a1 a2).bind fun bt146 => (if bt144.1 = bt146.1 then (if (bt144.2 == bt146.2) = true then ((num_Sum.f a3 a4).bind fun t148 => ((consortref01_Sum.f a3 a4).bind fun t149 => (some (t148 == t149)))) else (some false)) else (some false))))) else (some false))
theorem consortlaw01_NumGets.mono : ∀ a0 a1 a2 a3 a4 k, LeO (consortlaw01_NumGets.f k a0 a1 a2 a3 a4) (consortlaw01_NumGets.f (k + 1) a0 a1 a2 a3 a4) := by
  intro a0 a1 a2 a3 a4 k
  unfold consortlaw01_NumGets.f
  repeat' first
      | (with_reducible exact consortlaw01_awake.mono _)
      | (with_reducible exact consortref01_Get.mono _ _ _ _)
      | (with_reducible exact LeO.refl _)
      | (with_reducible exact LeO.none _)
      | (with_reducible refine LeO.ite ?_ ?_)
      | (with_reducible refine LeO.bind ?_ (fun _ => ?_))
      | exact consortlaw01_awake.mono _
      | exact consortref01_Get.mono _ _ _ _
      | exact LeO.none _
      | refine LeO.ite ?_ ?_
      | refine LeO.bind ?_ (fun _ => ?_)
set_option maxHeartbeats 8000000 in
set_option maxRecDepth 100000 in
theorem consortlaw01_NumGets.calls (k : Nat) (a0 : ByteArray) (a1 : Int) (a2 : Int) (a3 : Int) (a4 : Int) (w : World) (h : consortlaw01_NumGets.f k a0 a1 a2 a3 a4 = some true) :
    Calls Try.prog 4 #[.string a0, .int .i64 a1, .int .i64 a2, .int .u64 a3, .int .u64 a4] w fun e w' => e = .returned (.bool true) ∧ Below w.heap.size w w' := by
  have HB := Aside0.mk (Below.refl w.heap.size w)
  have H : ((consortlaw01_awake.f k).bind fun t143 => (if t143 = true then (if (a0.size : Int) > 20000 then (some true) else ((num_Get.f a0 a1 a2).bind fun bt144 => ((consortref01_Get.f k a0 a1 a2).bind fun bt146 => (if bt144.1 = bt146.1 then (if (bt144.2 == bt146.2) = true then ((num_Sum.f a3 a4).bind fun t148 => ((consortref01_Sum.f a3 a4).bind fun t149 => (some (t148 == t149)))) else (some false)) else (some false))))) else (some false))) = some true := h
  clear h
  replace H := Option.bind_eq_some_iff.mp H
  obtain ⟨t143, A60, H⟩ := H
  replace H : (if t143 = true then (if (a0.size : Int) > 20000 then (some true) else ((num_Get.f a0 a1 a2).bind fun bt144 => ((consortref01_Get.f k a0 a1 a2).bind fun bt146 => (if bt144.1 = bt146.1 then (if (bt144.2 == bt146.2) = true then ((num_Sum.f a3 a4).bind fun t148 => ((consortref01_Sum.f a3 a4).bind fun t149 => (some (t148 == t149)))) else (some false)) else (some false))))) else (some false)) = some true := H
  have A6 := Aside0.mk A60
  clear A60
  by_cases c7 : t143 = true
  · subst c7
    have H1 : (if (a0.size : Int) > 20000 then (some true) else ((num_Get.f a0 a1 a2).bind fun bt144 => ((consortref01_Get.f k a0 a1 a2).bind fun bt146 => (if bt144.1 = bt146.1 then (if (bt144.2 == bt146.2) = true then ((num_Sum.f a3 a4).bind fun t148 => ((consortref01_Sum.f a3 a4).bind fun t149 => (some (t148 == t149)))) else (some false)) else (some false))))) = some true := by first | (rw [if_pos rfl] at H; done) | (rw [if_pos rfl] at H; exact H)
    clear H
    have H := H1
    clear H1
    by_cases c8 : (a0.size : Int) > 20000
    · rw [if_pos c8] at H
      have c8b0 : decide (20000 < (a0.size : Int)) = true := decide_eq_true c8
      have c8b1 : decide (20000 < a0.size) = true := decide_eq_true (by omega)
      clear c8
      clear H
      go_enter Try.func4, Try.ntmps4
      go_wp2_with (first | ((with_reducible refine gate_callee (f := 8) rfl ?_); refine goesL_ (some 15) rfl rfl Try.func8 (by kernel_rfl) rfl #[] rfl (by (try simp only [List.map_toArray, List.map_cons, List.map_nil]); first | done | rfl | (simp only [List.length_drop, List.length_take]; rfl)) ?_; (with_reducible refine (consortlaw01_awake.calls k  true _ A6.out).mono ?_); rintro e w9 ⟨rfl, hb⟩; refine ⟨_, rfl, ?_⟩; have n0_ := Aside0.mk (below_step (by repeat (first | (with_reducible first | exact HB.out | apply below_alloc | apply pw_below_drewN | apply below_drew1) | exact HB.out)) hb); clear HB; have HB := n0_; clear n0_; (try clear hb); (try clear hb2); (try clear hk); (try clear hi)))
      go_ret
      exact ⟨by first | rfl | (simp [errW_none, errW_some] <;> rfl) | (simp [*, errW_none, errW_some] <;> rfl), by repeat (first | (with_reducible first | exact HB.out | apply below_alloc | apply pw_below_drewN | apply below_drew1) | exact HB.out)⟩
    · rw [if_neg c8] at H
      have c8b0 : decide (20000 < (a0.size : Int)) = false := decide_eq_false c8
      have c8b1 : decide (20000 < a0.size) = false := decide_eq_false (by omega)
      clear c8
      replace H := Option.bind_eq_some_iff.mp H
      obtain ⟨⟨t144, t145⟩, A100, H⟩ := H
      replace H : ((consortref01_Get.f k a0 a1 a2).bind fun bt146 => (if t144 = bt146.1 then (if (t145 == bt146.2) = true then ((num_Sum.f a3 a4).bind fun t148 => ((consortref01_Sum.f a3 a4).bind fun t149 => (some (t148 == t149)))) else (some false)) else (some false))) = some true := H
      have A10 := Aside0.mk A100
      clear A100
      replace H := Option.bind_eq_some_iff.mp H
      obtain ⟨⟨t146, t147⟩, A110, H⟩ := H
      replace H : (if t144 = t146 then (if (t145 == t147) = true then ((num_Sum.f a3 a4).bind fun t148 => ((consortref01_Sum.f a3 a4).bind fun t149 => (some (t148 == t149)))) else (some false)) else (some false)) = some true := H
      have A11 := Aside0.mk A110
      clear A110
      by_cases c12 : t144 = t146
      · rw [if_pos c12] at H
        have c12b0 : (t144 == t146) = true := beq_iff_eq.mpr c12
        have c12b1 : (t144 != t146) = false := bne_eq_false_iff_eq.mpr c12
        clear c12
        by_cases c13 : (t145 == t147) = true
        · rw [if_pos c13] at H
          have c13b0 : (t145 == t147) = true := c13
          (try (have c13b1 : decide (t145 = t147) = true := by simpa using c13))
          (try (have c13b2 : (t145 == t147) = true := by simpa using c13))
          clear c13
          replace H := Option.bind_eq_some_iff.mp H
          obtain ⟨t148, A140, H⟩ := H
          replace H : ((consortref01_Sum.f a3 a4).bind fun t149 => (some (t148 == t149))) = some true := H
          have A14 := Aside0.mk A140
          clear A140
          replace H := Option.bind_eq_some_iff.mp H
          obtain ⟨t149, A150, H⟩ := H
          replace H : (some (t148 == t149)) = some true := H
          have A15 := Aside0.mk A150
          clear A150
          have hres_ : ((t148 == t149)) = true := Option.some.inj H
          go_enter Try.func4, Try.ntmps4
          go_wp2_with (first | ((with_reducible refine gate_callee (f := 8) rfl ?_); refine goesL_ (some 15) rfl rfl Try.func8 (by kernel_rfl) rfl #[] rfl (by (try simp only [List.map_toArray, List.map_cons, List.map_nil]); first | done | rfl | (simp only [List.length_drop, List.length_take]; rfl)) ?_; (with_reducible refine (consortlaw01_awake.calls k  true _ A6.out).mono ?_); rintro e w16 ⟨rfl, hb⟩; refine ⟨_, rfl, ?_⟩; have n0_ := Aside0.mk (below_step (by repeat (first | (with_reducible first | exact HB.out | apply below_alloc | apply pw_below_drewN | apply below_drew1) | exact HB.out)) hb); clear HB; have HB := n0_; clear n0_; (try clear hb); (try clear hb2); (try clear hk); (try clear hi)) | ((with_reducible refine gate_callee (f := 11) rfl ?_); refine goesL_ (some 24) rfl rfl Try.func11 (by kernel_rfl) rfl #[.string a0, .int .i64 a1, .int .i64 a2] rfl (by (try simp only [List.map_toArray, List.map_cons, List.map_nil]); first | done | rfl | (simp only [List.length_drop, List.length_take]; rfl)) ?_; (with_reducible refine (num_Get.calls a0 a1 a2 t144 t145 _ A10.out).mono ?_); rintro e w17 ⟨rfl, hb⟩; refine ⟨_, rfl, ?_⟩; have n0_ := Aside0.mk (below_step (by repeat (first | (with_reducible first | exact HB.out | apply below_alloc | apply pw_below_drewN | apply below_drew1) | exact HB.out)) hb); clear HB; have HB := n0_; clear n0_; (try clear hb); (try clear hb2); (try clear hk); (try clear hi)) | ((with_reducible refine gate_callee (f := 12) rfl ?_); refine goesL_ (some 31) rfl rfl Try.func12 (by kernel_rfl) rfl #[.string a0, .int .i64 a1, .int .i64 a2] rfl (by (try simp only [List.map_toArray, List.map_cons, List.map_nil]); first | done | rfl | (simp only [List.length_drop, List.length_take]; rfl)) ?_; (with_reducible refine (consortref01_Get.calls k a0 a1 a2 t146 t147 _ A11.out).mono ?_); rintro e w' ⟨rfl, ⟨nd, rfl⟩⟩; refine ⟨_, rfl, ?_⟩) | (go_at_call 13; (with_reducible refine (num_Sum.calls a3 a4 t148 _ A14.out).mono ?_); rintro e w' ⟨rfl, ⟨nd, rfl⟩⟩) | (go_at_call 14; (with_reducible refine (consortref01_Sum.calls a3 a4 t149 _ A15.out).mono ?_); rintro e w' ⟨rfl, ⟨nd, rfl⟩⟩))
          go_ret
          exact ⟨by first | rfl | (simp [errW_none, errW_some] <;> rfl) | (simp [*, errW_none, errW_some] <;> rfl), by repeat (first | (with_reducible first | exact HB.out | apply below_alloc | apply pw_below_drewN | apply below_drew1) | exact HB.out)⟩
        · rw [if_neg c13] at H
          have c13b0 : (t145 == t147) = false := by simpa using c13
          (try (have c13b1 : decide (t145 = t147) = false := by simpa using c13))
          (try (have c13b2 : (t145 == t147) = false := by simpa using c13))
          (try (have c13b3 : ¬ (t145 = t147) := by simpa using c13))
          clear c13
          exact absurd H (by simp)
      · rw [if_neg c12] at H
        have c12b0 : (t144 == t146) = false := beq_eq_false_iff_ne.mpr c12
        have c12b1 : (t144 != t146) = true := bne_iff_ne.mpr c12
        exact absurd H (by simp)
  · replace c7 := Bool.eq_false_iff.mpr c7
    subst c7
    have H1 : (some false) = some true := by first | (rw [if_neg (show ¬ (false = true) by decide)] at H; done) | (rw [if_neg (show ¬ (false = true) by decide)] at H; exact H)
    clear H
    have H := H1
    clear H1
    exact absurd H (by simp)

/-- THE ONE PURE STATEMENT of consortlaw01_NumGets: yours. -/
def consortlaw01_NumGets.Pure : Prop := ∀ (a0 : ByteArray) (a1 : Int) (a2 : Int) (a3 : Int) (a4 : Int), a0.size ≤ 140737488351232 → (Lit.int .i64 a1).wf = true → (Lit.int .i64 a2).wf = true → (Lit.int .u64 a3).wf = true → (Lit.int .u64 a4).wf = true → ∃ k, consortlaw01_NumGets.f k a0 a1 a2 a3 a4 = some true
theorem consortlaw01_NumGets.walk (P : consortlaw01_NumGets.Pure) (a0 : ByteArray) (a1 : Int) (a2 : Int) (a3 : Int) (a4 : Int) (w : World) (w0 : a0.size ≤ 140737488351232) (w1 : (Lit.int .i64 a1).wf = true) (w2 : (Lit.int .i64 a2).wf = true) (w3 : (Lit.int .u64 a3).wf = true) (w4 : (Lit.int .u64 a4).wf = true) :
    Calls Try.prog 4 #[.string a0, .int .i64 a1, .int .i64 a2, .int .u64 a3, .int .u64 a4] w fun e w' => e = .returned (.bool true) ∧ Below w.heap.size w w' := by
  obtain ⟨k, h⟩ := P a0 a1 a2 a3 a4 w0 w1 w2 w3 w4
  refine (consortlaw01_NumGets.calls k a0 a1 a2 a3 a4 w h).mono ?_
  rintro e w' ⟨rfl, hd⟩
  exact ⟨rfl, hd⟩

/-! ### consortref01_Text: function 17 -/
def consortref01_Text.f (a0 : ByteArray) (a1 : Int) (a2 : Int) : Option (ByteArray × Int × Bool) := if a2 < 0 then (if 0 > (wrap64 ((a0.size : Int) - a1)) then (some ((⟨#[]⟩ : ByteArray), a1, false)) else (if 0 ≤ a1 then (if a1 ≤ (wrap64 (a1 + 0)) then (if (wrap64 (a1 + 0)) ≤ (a0.size : Int) then (some (a0.extract (a1 : Int).toNat ((wrap64 (a1 + 0)) : Int).toNat, wrap64 (a1 + 0), true)) else (none)) else (none)) else (none))) else (if a2 > (wrap64 ((a0.size : Int) - a1)) then (some ((⟨#[]⟩ : ByteArray), a1, false)) else (if 0 ≤ a1 then (if a1 ≤ (wrap64 (a1 + a2)) then (if (wrap64 (a1 + a2)) ≤ (a0.size : Int) then (some (a0.extract (a1 : Int).toNat ((wrap64 (a1 + a2)) : Int).toNat, wrap64 (a1 + a2), true)) else (none)) else (none)) else (none)))
set_option maxHeartbeats 8000000 in
set_option maxRecDepth 100000 in
theorem consortref01_Text.calls (a0 : ByteArray) (a1 : Int) (a2 : Int) (r1 : ByteArray) (r2 : Int) (r3 : Bool) (w : World) (h : consortref01_Text.f a0 a1 a2 = some (r1, r2, r3)) :
    Calls Try.prog 17 #[.string a0, .int .i64 a1, .int .i64 a2] w fun e w' => e = .returned (.tuple #[.string r1, .int .i64 r2, .bool r3]) ∧ Drawn0 w w' := by
  have H : (if a2 < 0 then (if 0 > (wrap64 ((a0.size : Int) - a1)) then (some ((⟨#[]⟩ : ByteArray), a1, false)) else (if 0 ≤ a1 then (if a1 ≤ (wrap64 (a1 + 0)) then (if (wrap64 (a1 + 0)) ≤ (a0.size : Int) then (some (a0.extract (a1 : Int).toNat ((wrap64 (a1 + 0)) : Int).toNat, wrap64 (a1 + 0), true)) else (none)) else (none)) else (none))) else (if a2 > (wrap64 ((a0.size : Int) - a1)) then (some ((⟨#[]⟩ : ByteArray), a1, false)) else (if 0 ≤ a1 then (if a1 ≤ (wrap64 (a1 + a2)) then (if (wrap64 (a1 + a2)) ≤ (a0.size : Int) then (some (a0.extract (a1 : Int).toNat ((wrap64 (a1 + a2)) : Int).toNat, wrap64 (a1 + a2), true)) else (none)) else (none)) else (none)))) = some (r1, r2, r3) := h
  clear h
  by_cases c4 : a2 < 0
  · rw [if_pos c4] at H
    have c4b0 : decide (a2 < 0) = true := decide_eq_true c4
    clear c4
    by_cases c5 : 0 > (wrap64 ((a0.size : Int) - a1))
    · rw [if_pos c5] at H
      have c5b0 : decide ((wrap64 ((a0.size : Int) - a1)) < 0) = true := decide_eq_true c5
      clear c5
      simp only [Option.some.injEq, Prod.mk.injEq] at H
      obtain ⟨rfl, rfl, rfl⟩ := H
      go_enter Try.func17, Try.ntmps17
      go_wp2
      go_ret3
      exact ⟨by first | rfl | (simp; done) | (simp [*]; done), by repeat (first | exact Drawn0.refl _ | apply Drawn0.step)⟩
    · rw [if_neg c5] at H
      have c5b0 : decide ((wrap64 ((a0.size : Int) - a1)) < 0) = false := decide_eq_false c5
      clear c5
      by_cases c6 : 0 ≤ a1
      · rw [if_pos c6] at H
        have c6b0 := eq_true c6
        (try (have c6b0z := c6; simp only [Int.add_zero, Int.zero_add] at c6b0z))
        have c6b1 : decide (0 ≤ a1) = true := decide_eq_true c6
        clear c6
        by_cases c7 : a1 ≤ (wrap64 (a1 + 0))
        · rw [if_pos c7] at H
          have c7b0 := eq_true c7
          (try (have c7b0z := c7; simp only [Int.add_zero, Int.zero_add] at c7b0z))
          have c7b1 : decide (a1 ≤ (wrap64 (a1 + 0))) = true := decide_eq_true c7
          (try (have c7b1z := c7b1; simp only [Int.add_zero, Int.zero_add] at c7b1z))
          by_cases c8 : (wrap64 (a1 + 0)) ≤ (a0.size : Int)
          · rw [if_pos c8] at H
            have c8b0 := eq_true c8
            (try (have c8b0z := c8; simp only [Int.add_zero, Int.zero_add] at c8b0z))
            have c8b1 : decide ((wrap64 (a1 + 0)) ≤ (a0.size : Int)) = true := decide_eq_true c8
            (try (have c8b1z := c8b1; simp only [Int.add_zero, Int.zero_add] at c8b1z))
            simp only [Option.some.injEq, Prod.mk.injEq] at H
            obtain ⟨rfl, rfl, rfl⟩ := H
            go_enter Try.func17, Try.ntmps17
            go_wp2
            go_ret3
            exact ⟨by first | rfl | (simp; done) | (simp [*]; done), by repeat (first | exact Drawn0.refl _ | apply Drawn0.step)⟩
          · rw [if_neg c8] at H
            exact absurd H (by simp)
        · rw [if_neg c7] at H
          exact absurd H (by simp)
      · rw [if_neg c6] at H
        exact absurd H (by simp)
  · rw [if_neg c4] at H
    have c4b0 : decide (a2 < 0) = false := decide_eq_false c4
    clear c4
    by_cases c9 : a2 > (wrap64 ((a0.size : Int) - a1))
    · rw [if_pos c9] at H
      have c9b0 : decide ((wrap64 ((a0.size : Int) - a1)) < a2) = true := decide_eq_true c9
      clear c9
      simp only [Option.some.injEq, Prod.mk.injEq] at H
      obtain ⟨rfl, rfl, rfl⟩ := H
      go_enter Try.func17, Try.ntmps17
      go_wp2
      go_ret3
      exact ⟨by first | rfl | (simp; done) | (simp [*]; done), by repeat (first | exact Drawn0.refl _ | apply Drawn0.step)⟩
    · rw [if_neg c9] at H
      have c9b0 : decide ((wrap64 ((a0.size : Int) - a1)) < a2) = false := decide_eq_false c9
      clear c9
      by_cases c10 : 0 ≤ a1
      · rw [if_pos c10] at H
        have c10b0 := eq_true c10
        (try (have c10b0z := c10; simp only [Int.add_zero, Int.zero_add] at c10b0z))
        have c10b1 : decide (0 ≤ a1) = true := decide_eq_true c10
        clear c10
        by_cases c11 : a1 ≤ (wrap64 (a1 + a2))
        · rw [if_pos c11] at H
          have c11b0 := eq_true c11
          (try (have c11b0z := c11; simp only [Int.add_zero, Int.zero_add] at c11b0z))
          have c11b1 : decide (a1 ≤ (wrap64 (a1 + a2))) = true := decide_eq_true c11
          by_cases c12 : (wrap64 (a1 + a2)) ≤ (a0.size : Int)
          · rw [if_pos c12] at H
            have c12b0 := eq_true c12
            (try (have c12b0z := c12; simp only [Int.add_zero, Int.zero_add] at c12b0z))
            have c12b1 : decide ((wrap64 (a1 + a2)) ≤ (a0.size : Int)) = true := decide_eq_true c12
            simp only [Option.some.injEq, Prod.mk.injEq] at H
            obtain ⟨rfl, rfl, rfl⟩ := H
            go_enter Try.func17, Try.ntmps17
            go_wp2
            go_ret3
            exact ⟨by first | rfl | (simp; done) | (simp [*]; done), by repeat (first | exact Drawn0.refl _ | apply Drawn0.step)⟩
          · rw [if_neg c12] at H
            exact absurd H (by simp)
        · rw [if_neg c11] at H
          exact absurd H (by simp)
      · rw [if_neg c10] at H
        exact absurd H (by simp)

/-! ### consortref01_Num: function 18 -/
def consortref01_Num.f (k : Nat) (a0 : ByteArray) (a1 : Int) (a2 : Int) : Option (Int × Int × Bool) := (consortref01_size.f a2).bind fun t150 => ((consortref01_Text.f a0 a1 t150).bind fun bt151 => ((consortref01_Get.f k bt151.1 0 (bt151.1.size : Int)).bind fun bt154 => (some (bt154.1, bt151.2.1, bt151.2.2))))
theorem consortref01_Num.mono : ∀ a0 a1 a2 k, LeO (consortref01_Num.f k a0 a1 a2) (consortref01_Num.f (k + 1) a0 a1 a2) := by
  intro a0 a1 a2 k
  unfold consortref01_Num.f
  repeat' first
      | (with_reducible exact consortref01_Get.mono _ _ _ _)
      | (with_reducible exact LeO.refl _)
      | (with_reducible exact LeO.none _)
      | (with_reducible refine LeO.ite ?_ ?_)
      | (with_reducible refine LeO.bind ?_ (fun _ => ?_))
      | exact consortref01_Get.mono _ _ _ _
      | exact LeO.none _
      | refine LeO.ite ?_ ?_
      | refine LeO.bind ?_ (fun _ => ?_)
set_option maxHeartbeats 8000000 in
set_option maxRecDepth 100000 in
theorem consortref01_Num.calls (k : Nat) (a0 : ByteArray) (a1 : Int) (a2 : Int) (r1 : Int) (r2 : Int) (r3 : Bool) (w : World) (h : consortref01_Num.f k a0 a1 a2 = some (r1, r2, r3)) :
    Calls Try.prog 18 #[.string a0, .int .i64 a1, .int .i64 a2] w fun e w' => e = .returned (.tuple #[.int .u64 r1, .int .i64 r2, .bool r3]) ∧ Drawn0 w w' := by
  have H : ((consortref01_size.f a2).bind fun t150 => ((consortref01_Text.f a0 a1 t150).bind fun bt151 => ((consortref01_Get.f k bt151.1 0 (bt151.1.size : Int)).bind fun bt154 => (some (bt154.1, bt151.2.1, bt151.2.2))))) = some (r1, r2, r3) := h
  clear h
  replace H := Option.bind_eq_some_iff.mp H
  obtain ⟨t150, A40, H⟩ := H
  replace H : ((consortref01_Text.f a0 a1 t150).bind fun bt151 => ((consortref01_Get.f k bt151.1 0 (bt151.1.size : Int)).bind fun bt154 => (some (bt154.1, bt151.2.1, bt151.2.2)))) = some (r1, r2, r3) := H
  have A4 := Aside0.mk A40
  clear A40
  replace H := Option.bind_eq_some_iff.mp H
  obtain ⟨⟨t151, t152, t153⟩, A50, H⟩ := H
  replace H : ((consortref01_Get.f k t151 0 (t151.size : Int)).bind fun bt154 => (some (bt154.1, t152, t153))) = some (r1, r2, r3) := H
  have A5 := Aside0.mk A50
  clear A50
  replace H := Option.bind_eq_some_iff.mp H
  obtain ⟨⟨t154, t155⟩, A60, H⟩ := H
  replace H : (some (t154, t152, t153)) = some (r1, r2, r3) := H
  have A6 := Aside0.mk A60
  clear A60
  simp only [Option.some.injEq, Prod.mk.injEq] at H
  obtain ⟨rfl, rfl, rfl⟩ := H
  go_enter Try.func18, Try.ntmps18
  go_wp2_with (first | ((with_reducible refine gate_callee (f := 23) rfl ?_); refine goesL_ (some 18) rfl rfl Try.func23 (by kernel_rfl) rfl #[.int .i64 a2] rfl (by (try simp only [List.map_toArray, List.map_cons, List.map_nil]); first | done | rfl | (simp only [List.length_drop, List.length_take]; rfl)) ?_; (with_reducible refine (consortref01_size.calls a2 t150 _ A4.out).mono ?_); rintro e w' ⟨rfl, ⟨nd, rfl⟩⟩; refine ⟨_, rfl, ?_⟩) | ((with_reducible refine gate_callee (f := 17) rfl ?_); refine goesL_ (some 19) rfl rfl Try.func17 (by kernel_rfl) rfl #[.string a0, .int .i64 a1, .int .i64 t150] rfl (by (try simp only [List.map_toArray, List.map_cons, List.map_nil]); first | done | rfl | (simp only [List.length_drop, List.length_take]; rfl)) ?_; (with_reducible refine (consortref01_Text.calls a0 a1 t150 t151 t152 t153 _ A5.out).mono ?_); rintro e w' ⟨rfl, ⟨nd, rfl⟩⟩; refine ⟨_, rfl, ?_⟩) | ((with_reducible refine gate_callee (f := 12) rfl ?_); refine goesL_ (some 27) rfl rfl Try.func12 (by kernel_rfl) rfl #[.string t151, .int .i64 0, .int .i64 (t151.size : Int)] rfl (by (try simp only [List.map_toArray, List.map_cons, List.map_nil]); first | done | rfl | (simp only [List.length_drop, List.length_take]; rfl)) ?_; (with_reducible refine (consortref01_Get.calls k t151 0 (t151.size : Int) t154 t155 _ A6.out).mono ?_); rintro e w' ⟨rfl, ⟨nd, rfl⟩⟩; refine ⟨_, rfl, ?_⟩))
  go_ret3
  exact ⟨by first | rfl | (simp; done) | (simp [*]; done), by repeat (first | exact Drawn0.refl _ | apply Drawn0.step)⟩

end Go.Proofs.Ytjolbpfileiipaa.P
