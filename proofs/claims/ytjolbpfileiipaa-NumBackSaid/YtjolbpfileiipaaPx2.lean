-- Written by our own program (wip/pr) over the kit's print.py, with contracts of our own.
import Derived.Test.YtjolbpfileiipaaPx0
import Derived.Test.YtjolbpfileiipaaPx1
import Derived.Test.YtjolbpfileiipaaHandV
namespace Go.Proofs.Ytjolbpfileiipaa.P
open Go.RowKit Go.Proofs.YtjolbpfileiipaaW.PrintWords Go.Proofs.YtjolbpfileiipaaW.PrintLast Go.Proofs.YtjolbpfileiipaaW.PrintMore
attribute [local go_sem] max2_int min2_int max_two min_two max_three min_three max_four min_four   -- for this text's walks alone
set_option linter.unusedVariables false
set_option linter.unusedSimpArgs false

/-! ### consortref01_Sum: function 14 -/
def consortref01_Sum.f (a0 : Int) (a1 : Int) : Option (Int) := if (IntKind.u64.wrap (a0 + a1)) < a0 then (some 18446744073709551615) else (some (IntKind.u64.wrap (a0 + a1)))
set_option maxHeartbeats 8000000 in
set_option maxRecDepth 100000 in
theorem consortref01_Sum.calls (a0 : Int) (a1 : Int) (r : Int) (w : World) (h : consortref01_Sum.f a0 a1 = some r) :
    Calls Try.prog 14 #[.int .u64 a0, .int .u64 a1] w fun e w' => e = .returned (.int .u64 r) ∧ Drawn0 w w' := by
  have H : (if (IntKind.u64.wrap (a0 + a1)) < a0 then (some 18446744073709551615) else (some (IntKind.u64.wrap (a0 + a1)))) = some r := h
  clear h
  by_cases c3 : (IntKind.u64.wrap (a0 + a1)) < a0
  · rw [if_pos c3] at H
    have c3b0 : decide ((IntKind.u64.wrap (a0 + a1)) < a0) = true := decide_eq_true c3
    clear c3
    obtain rfl := Option.some.inj H
    go_enter Try.func14, Try.ntmps14
    go_wp2
    go_ret
    exact ⟨by first | rfl | (simp; done) | (simp [*]; done), by repeat (first | exact Drawn0.refl _ | apply Drawn0.step)⟩
  · rw [if_neg c3] at H
    have c3b0 : decide ((IntKind.u64.wrap (a0 + a1)) < a0) = false := decide_eq_false c3
    clear c3
    obtain rfl := Option.some.inj H
    go_enter Try.func14, Try.ntmps14
    go_wp2
    go_ret
    exact ⟨by first | rfl | (simp; done) | (simp [*]; done), by repeat (first | exact Drawn0.refl _ | apply Drawn0.step)⟩

/-! ### consortlaw01_NumGets: function 4 -/
def consortlaw01_NumGets.f (k : Nat) (a0 : ByteArray) (a1 : Int) (a2 : Int) (a3 : Int) (a4 : Int) : Option (Bool) := (consortlaw01_awake.f k).bind fun t139 => (if t139 = true then (if (a0.size : Int) > 20000 then (some true) else ((num_Get.f a0 a1 a2).bind fun bt140 => ((consortref01_Get.f k a0 a1 a2).bind fun bt142 => (if bt140.1 = bt142.1 then (if (bt140.2 == bt142.2) = true then ((num_Sum.f a3 a4).bind fun t144 => ((consortref01_Sum.f a3 a4).bind fun t145 => (some (t144 == t145)))) else (some false)) else (some false))))) else (some false))
theorem consortlaw01_NumGets.mono : ∀ a0 a1 a2 a3 a4 k, LeO (consortlaw01_NumGets.f k a0 a1 a2 a3 a4) (consortlaw01_NumGets.f (k + 1) a0 a1 a2 a3 a4) := by
  intro a0 a1 a2 a3 a4 k
  unfold consortlaw01_NumGets.f
  repeat' first
      | (with_reducible exact consortlaw01_awake.mono _)
      | (with_reducible exact consortref01_Get.mono _ _ _ _)
      | (with_reducible exact LeO.refl _)
      | (with_reducible exact LeO.none _)
      | (with_reducible refine LeO.ite ?_ ?_)
      | (with_reducible refine LeO.bind ?_ (fun _ => ?_))
      | exact consortlaw01_awake.mono _
      | exact consortref01_Get.mono _ _ _ _
      | exact LeO.none _
      | refine LeO.ite ?_ ?_
      | refine LeO.bind ?_ (fun _ => ?_)
set_option maxHeartbeats 8000000 in
set_option maxRecDepth 100000 in
theorem consortlaw01_NumGets.calls (k : Nat) (a0 : ByteArray) (a1 : Int) (a2 : Int) (a3 : Int) (a4 : Int) (w : World) (h : consortlaw01_NumGets.f k a0 a1 a2 a3 a4 = some true) :
    Calls Try.prog 4 #[.string a0, .int .i64 a1, .int .i64 a2, .int .u64 a3, .int .u64 a4] w fun e w' => e = .returned (.bool true) ∧ Below w.heap.size w w' := by
  have HB := Aside0.mk (Below.refl w.heap.size w)
  have H : ((consortlaw01_awake.f k).bind fun t139 => (if t139 = true then (if (a0.size : Int) > 20000 then (some true) else ((num_Get.f a0 a1 a2).bind fun bt140 => ((consortref01_Get.f k a0 a1 a2).bind fun bt142 => (if bt140.1 = bt142.1 then (if (bt140.2 == bt142.2) = true then ((num_Sum.f a3 a4).bind fun t144 => ((consortref01_Sum.f a3 a4).bind fun t145 => (some (t144 == t145)))) else (some false)) else (some false))))) else (some false))) = some true := h
  clear h
  replace H := Option.bind_eq_some_iff.mp H
  obtain ⟨t139, A60, H⟩ := H
  replace H : (if t139 = true then (if (a0.size : Int) > 20000 then (some true) else ((num_Get.f a0 a1 a2).bind fun bt140 => ((consortref01_Get.f k a0 a1 a2).bind fun bt142 => (if bt140.1 = bt142.1 then (if (bt140.2 == bt142.2) = true then ((num_Sum.f a3 a4).bind fun t144 => ((consortref01_Sum.f a3 a4).bind fun t145 => (some (t144 == t145)))) else (some false)) else (some false))))) else (some false)) = some true := H
  have A6 := Aside0.mk A60
  clear A60
  by_cases c7 : t139 = true
  · subst c7
    have H1 : (if (a0.size : Int) > 20000 then (some true) else ((num_Get.f a0 a1 a2).bind fun bt140 => ((consortref01_Get.f k a0 a1 a2).bind fun bt142 => (if bt140.1 = bt142.1 then (if (bt140.2 == bt142.2) = true then ((num_Sum.f a3 a4).bind fun t144 => ((consortref01_Sum.f a3 a4).bind fun t145 => (some (t144 == t145)))) else (some false)) else (some false))))) = some true := by first | (rw [if_pos rfl] at H; done) | (rw [if_pos rfl] at H; exact H)
    clear H
    have H := H1
    clear H1
    by_cases c8 : (a0.size : Int) > 20000
    · rw [if_pos c8] at H
      have c8b0 : decide (20000 < (a0.size : Int)) = true := decide_eq_true c8
      have c8b1 : decide (20000 < a0.size) = true := decide_eq_true (by omega)
      clear c8
      clear H
      go_enter Try.func4, Try.ntmps4
      go_wp2_with (first | ((with_reducible refine gate_callee (f := 8) rfl ?_); refine goesL_ (some 15) rfl rfl Try.func8 (by kernel_rfl) rfl #[] rfl (by (try simp only [List.map_toArray, List.map_cons, List.map_nil]); first | done | rfl | (simp only [List.length_drop, List.length_take]; rfl)) ?_; (with_reducible refine (consortlaw01_awake.calls k  true _ A6.out).mono ?_); rintro e w9 ⟨rfl, hb⟩; refine ⟨_, rfl, ?_⟩; have n0_ := Aside0.mk (below_step (by repeat (first | (with_reducible first | exact HB.out | apply below_alloc | apply pw_below_drewN | apply below_drew1) | exact HB.out)) hb); clear HB; have HB := n0_; clear n0_; (try clear hb); (try clear hb2); (try clear hk); (try clear hi)))
      go_ret
      exact ⟨by first | rfl | (simp [errW_none, errW_some] <;> rfl) | (simp [*, errW_none, errW_some] <;> rfl), by repeat (first | (with_reducible first | exact HB.out | apply below_alloc | apply pw_below_drewN | apply below_drew1) | exact HB.out)⟩
    · rw [if_neg c8] at H
      have c8b0 : decide (20000 < (a0.size : Int)) = false := decide_eq_false c8
      have c8b1 : decide (20000 < a0.size) = false := decide_eq_false (by omega)
      clear c8
      replace H := Option.bind_eq_some_iff.mp H
      obtain ⟨⟨t140, t141⟩, A100, H⟩ := H
      replace H : ((consortref01_Get.f k a0 a1 a2).bind fun bt142 => (if t140 = bt142.1 then (if (t141 == bt142.2) = true then ((num_Sum.f a3 a4).bind fun t144 => ((consortref01_Sum.f a3 a4).bind fun t145 => (some (t144 == t145)))) else (some false)) else (some false))) = some true := H
      have A10 := Aside0.mk A100
      clear A100
      replace H := Option.bind_eq_some_iff.mp H
      obtain ⟨⟨t142, t143⟩, A110, H⟩ := H
      replace H : (if t140 = t142 then (if (t141 == t143) = true then ((num_Sum.f a3 a4).bind fun t144 => ((consortref01_Sum.f a3 a4).bind fun t145 => (some (t144 == t145)))) else (some false)) else (some false)) = some true := H
      have A11 := Aside0.mk A110
      clear A110
      by_cases c12 : t140 = t142
      · rw [if_pos c12] at H
        have c12b0 : (t140 == t142) = true := beq_iff_eq.mpr c12
        have c12b1 : (t140 != t142) = false := bne_eq_false_iff_eq.mpr c12
        clear c12
        by_cases c13 : (t141 == t143) = true
        · rw [if_pos c13] at H
          have c13b0 : (t141 == t143) = true := c13
          (try (have c13b1 : decide (t141 = t143) = true := by simpa using c13))
          (try (have c13b2 : (t141 == t143) = true := by simpa using c13))
          clear c13
          replace H := Option.bind_eq_some_iff.mp H
          obtain ⟨t144, A140, H⟩ := H
          replace H : ((consortref01_Sum.f a3 a4).bind fun t145 => (some (t144 == t145))) = some true := H
          have A14 := Aside0.mk A140
          clear A140
          replace H := Option.bind_eq_some_iff.mp H
          obtain ⟨t145, A150, H⟩ := H
          replace H : (some (t144 == t145)) = some true := H
          have A15 := Aside0.mk A150
          clear A150
          have hres_ : ((t144 == t145)) = true := Option.some.inj H
          go_enter Try.func4, Try.ntmps4
          go_wp2_with (first | ((with_reducible refine gate_callee (f := 8) rfl ?_); refine goesL_ (some 15) rfl rfl Try.func8 (by kernel_rfl) rfl #[] rfl (by (try simp only [List.map_toArray, List.map_cons, List.map_nil]); first | done | rfl | (simp only [List.length_drop, List.length_take]; rfl)) ?_; (with_reducible refine (consortlaw01_awake.calls k  true _ A6.out).mono ?_); rintro e w16 ⟨rfl, hb⟩; refine ⟨_, rfl, ?_⟩; have n0_ := Aside0.mk (below_step (by repeat (first | (with_reducible first | exact HB.out | apply below_alloc | apply pw_below_drewN | apply below_drew1) | exact HB.out)) hb); clear HB; have HB := n0_; clear n0_; (try clear hb); (try clear hb2); (try clear hk); (try clear hi)) | ((with_reducible refine gate_callee (f := 11) rfl ?_); refine goesL_ (some 24) rfl rfl Try.func11 (by kernel_rfl) rfl #[.string a0, .int .i64 a1, .int .i64 a2] rfl (by (try simp only [List.map_toArray, List.map_cons, List.map_nil]); first | done | rfl | (simp only [List.length_drop, List.length_take]; rfl)) ?_; (with_reducible refine (num_Get.calls a0 a1 a2 t140 t141 _ A10.out).mono ?_); rintro e w17 ⟨rfl, hb⟩; refine ⟨_, rfl, ?_⟩; have n0_ := Aside0.mk (below_step (by repeat (first | (with_reducible first | exact HB.out | apply below_alloc | apply pw_below_drewN | apply below_drew1) | exact HB.out)) hb); clear HB; have HB := n0_; clear n0_; (try clear hb); (try clear hb2); (try clear hk); (try clear hi)) | ((with_reducible refine gate_callee (f := 12) rfl ?_); refine goesL_ (some 31) rfl rfl Try.func12 (by kernel_rfl) rfl #[.string a0, .int .i64 a1, .int .i64 a2] rfl (by (try simp only [List.map_toArray, List.map_cons, List.map_nil]); first | done | rfl | (simp only [List.length_drop, List.length_take]; rfl)) ?_; (with_reducible refine (consortref01_Get.calls k a0 a1 a2 t142 t143 _ A11.out).mono ?_); rintro e w' ⟨rfl, ⟨nd, rfl⟩⟩; refine ⟨_, rfl, ?_⟩) | (go_at_call 13; (with_reducible refine (num_Sum.calls a3 a4 t144 _ A14.out).mono ?_); rintro e w' ⟨rfl, ⟨nd, rfl⟩⟩) | (go_at_call 14; (with_reducible refine (consortref01_Sum.calls a3 a4 t145 _ A15.out).mono ?_); rintro e w' ⟨rfl, ⟨nd, rfl⟩⟩))
          go_ret
          exact ⟨by first | rfl | (simp [errW_none, errW_some] <;> rfl) | (simp [*, errW_none, errW_some] <;> rfl), by repeat (first | (with_reducible first | exact HB.out | apply below_alloc | apply pw_below_drewN | apply below_drew1) | exact HB.out)⟩
        · rw [if_neg c13] at H
          have c13b0 : (t141 == t143) = false := by simpa using c13
          (try (have c13b1 : decide (t141 = t143) = false := by simpa using c13))
          (try (have c13b2 : (t141 == t143) = false := by simpa using c13))
          (try (have c13b3 : ¬ (t141 = t143) := by simpa using c13))
          clear c13
          exact absurd H (by simp)
      · rw [if_neg c12] at H
        have c12b0 : (t140 == t142) = false := beq_eq_false_iff_ne.mpr c12
        have c12b1 : (t140 != t142) = true := bne_iff_ne.mpr c12
        exact absurd H (by simp)
  · replace c7 := Bool.eq_false_iff.mpr c7
    subst c7
    have H1 : (some false) = some true := by first | (rw [if_neg (show ¬ (false = true) by decide)] at H; done) | (rw [if_neg (show ¬ (false = true) by decide)] at H; exact H)
    clear H
    have H := H1
    clear H1
    exact absurd H (by simp)

/-- THE ONE PURE STATEMENT of consortlaw01_NumGets: yours. -/
def consortlaw01_NumGets.Pure : Prop := ∀ (a0 : ByteArray) (a1 : Int) (a2 : Int) (a3 : Int) (a4 : Int), a0.size ≤ 140737488351232 → (Lit.int .i64 a1).wf = true → (Lit.int .i64 a2).wf = true → (Lit.int .u64 a3).wf = true → (Lit.int .u64 a4).wf = true → ∃ k, consortlaw01_NumGets.f k a0 a1 a2 a3 a4 = some true
theorem consortlaw01_NumGets.walk (P : consortlaw01_NumGets.Pure) (a0 : ByteArray) (a1 : Int) (a2 : Int) (a3 : Int) (a4 : Int) (w : World) (w0 : a0.size ≤ 140737488351232) (w1 : (Lit.int .i64 a1).wf = true) (w2 : (Lit.int .i64 a2).wf = true) (w3 : (Lit.int .u64 a3).wf = true) (w4 : (Lit.int .u64 a4).wf = true) :
    Calls Try.prog 4 #[.string a0, .int .i64 a1, .int .i64 a2, .int .u64 a3, .int .u64 a4] w fun e w' => e = .returned (.bool true) ∧ Below w.heap.size w w' := by
  obtain ⟨k, h⟩ := P a0 a1 a2 a3 a4 w0 w1 w2 w3 w4
  refine (consortlaw01_NumGets.calls k a0 a1 a2 a3 a4 w h).mono ?_
  rintro e w' ⟨rfl, hd⟩
  exact ⟨rfl, hd⟩

/-! ### consortlaw01_NumSums: function 7 -/
def consortlaw01_NumSums.f (k : Nat) (a0 : Int) (a1 : Int) (a2 : Int) : Option (Bool) := (consortlaw01_awake.f k).bind fun t146 => (if t146 = true then ((num_Sum.f a0 a1).bind fun t147 => ((num_Sum.f t147 a2).bind fun t148 => ((num_Sum.f a1 a2).bind fun t149 => ((num_Sum.f a0 t149).bind fun t150 => (if t148 = t150 then ((num_Sum.f a0 a1).bind fun t151 => ((num_Sum.f a1 a0).bind fun t152 => (if t151 = t152 then ((num_Sum.f a0 0).bind fun t153 => (if t153 = a0 then ((num_Sum.f a0 a1).bind fun t154 => (if t154 ≥ a0 then ((num_Sum.f a0 a1).bind fun t155 => (some (decide (t155 ≥ a1)))) else (some false))) else (some false))) else (some false)))) else (some false)))))) else (some false))
theorem consortlaw01_NumSums.mono : ∀ a0 a1 a2 k, LeO (consortlaw01_NumSums.f k a0 a1 a2) (consortlaw01_NumSums.f (k + 1) a0 a1 a2) := by
  intro a0 a1 a2 k
  unfold consortlaw01_NumSums.f
  repeat' first
      | (with_reducible exact consortlaw01_awake.mono _)
      | (with_reducible exact LeO.refl _)
      | (with_reducible exact LeO.none _)
      | (with_reducible refine LeO.ite ?_ ?_)
      | (with_reducible refine LeO.bind ?_ (fun _ => ?_))
      | exact consortlaw01_awake.mono _
      | exact LeO.none _
      | refine LeO.ite ?_ ?_
      | refine LeO.bind ?_ (fun _ => ?_)
set_option maxHeartbeats 8000000 in
set_option maxRecDepth 100000 in
theorem consortlaw01_NumSums.calls (k : Nat) (a0 : Int) (a1 : Int) (a2 : Int) (w : World) (h : consortlaw01_NumSums.f k a0 a1 a2 = some true) :
    Calls Try.prog 7 #[.int .u64 a0, .int .u64 a1, .int .u64 a2] w fun e w' => e = .returned (.bool true) ∧ Below w.heap.size w w' := by
  have HB := Aside0.mk (Below.refl w.heap.size w)
  have H : ((consortlaw01_awake.f k).bind fun t146 => (if t146 = true then ((num_Sum.f a0 a1).bind fun t147 => ((num_Sum.f t147 a2).bind fun t148 => ((num_Sum.f a1 a2).bind fun t149 => ((num_Sum.f a0 t149).bind fun t150 => (if t148 = t150 then ((num_Sum.f a0 a1).bind fun t151 => ((num_Sum.f a1 a0).bind fun t152 => (if t151 = t152 then ((num_Sum.f a0 0).bind fun t153 => (if t153 = a0 then ((num_Sum.f a0 a1).bind fun t154 => (if t154 ≥ a0 then ((num_Sum.f a0 a1).bind fun t155 => (some (decide (t155 ≥ a1)))) else (some false))) else (some false))) else (some false)))) else (some false)))))) else (some false))) = some true := h
  clear h
  replace H := Option.bind_eq_some_iff.mp H
  obtain ⟨t146, A40, H⟩ := H
  replace H : (if t146 = true then ((num_Sum.f a0 a1).bind fun t147 => ((num_Sum.f t147 a2).bind fun t148 => ((num_Sum.f a1 a2).bind fun t149 => ((num_Sum.f a0 t149).bind fun t150 => (if t148 = t150 then ((num_Sum.f a0 a1).bind fun t151 => ((num_Sum.f a1 a0).bind fun t152 => (if t151 = t152 then ((num_Sum.f a0 0).bind fun t153 => (if t153 = a0 then ((num_Sum.f a0 a1).bind fun t154 => (if t154 ≥ a0 then ((num_Sum.f a0 a1).bind fun t155 => (some (decide (t155 ≥ a1)))) else (some false))) else (some false))) else (some false)))) else (some false)))))) else (some false)) = some true := H
  have A4 := Aside0.mk A40
  clear A40
  by_cases c5 : t146 = true
  · subst c5
    have H1 : ((num_Sum.f a0 a1).bind fun t147 => ((num_Sum.f t147 a2).bind fun t148 => ((num_Sum.f a1 a2).bind fun t149 => ((num_Sum.f a0 t149).bind fun t150 => (if t148 = t150 then ((num_Sum.f a0 a1).bind fun t151 => ((num_Sum.f a1 a0).bind fun t152 => (if t151 = t152 then ((num_Sum.f a0 0).bind fun t153 => (if t153 = a0 then ((num_Sum.f a0 a1).bind fun t154 => (if t154 ≥ a0 then ((num_Sum.f a0 a1).bind fun t155 => (some (decide (t155 ≥ a1)))) else (some false))) else (some false))) else (some false)))) else (some false)))))) = some true := by first | (rw [if_pos rfl] at H; done) | (rw [if_pos rfl] at H; exact H)
    clear H
    have H := H1
    clear H1
    replace H := Option.bind_eq_some_iff.mp H
    obtain ⟨t147, A60, H⟩ := H
    replace H : ((num_Sum.f t147 a2).bind fun t148 => ((num_Sum.f a1 a2).bind fun t149 => ((num_Sum.f a0 t149).bind fun t150 => (if t148 = t150 then ((num_Sum.f a0 a1).bind fun t151 => ((num_Sum.f a1 a0).bind fun t152 => (if t151 = t152 then ((num_Sum.f a0 0).bind fun t153 => (if t153 = a0 then ((num_Sum.f a0 a1).bind fun t154 => (if t154 ≥ a0 then ((num_Sum.f a0 a1).bind fun t155 => (some (decide (t155 ≥ a1)))) else (some false))) else (some false))) else (some false)))) else (some false))))) = some true := H
    have A6 := Aside0.mk A60
    clear A60
    replace H := Option.bind_eq_some_iff.mp H
    obtain ⟨t148, A70, H⟩ := H
    replace H : ((num_Sum.f a1 a2).bind fun t149 => ((num_Sum.f a0 t149).bind fun t150 => (if t148 = t150 then ((num_Sum.f a0 a1).bind fun t151 => ((num_Sum.f a1 a0).bind fun t152 => (if t151 = t152 then ((num_Sum.f a0 0).bind fun t153 => (if t153 = a0 then ((num_Sum.f a0 a1).bind fun t154 => (if t154 ≥ a0 then ((num_Sum.f a0 a1).bind fun t155 => (some (decide (t155 ≥ a1)))) else (some false))) else (some false))) else (some false)))) else (some false)))) = some true := H
    have A7 := Aside0.mk A70
    clear A70
    replace H := Option.bind_eq_some_iff.mp H
    obtain ⟨t149, A80, H⟩ := H
    replace H : ((num_Sum.f a0 t149).bind fun t150 => (if t148 = t150 then ((num_Sum.f a0 a1).bind fun t151 => ((num_Sum.f a1 a0).bind fun t152 => (if t151 = t152 then ((num_Sum.f a0 0).bind fun t153 => (if t153 = a0 then ((num_Sum.f a0 a1).bind fun t154 => (if t154 ≥ a0 then ((num_Sum.f a0 a1).bind fun t155 => (some (decide (t155 ≥ a1)))) else (some false))) else (some false))) else (some false)))) else (some false))) = some true := H
    have A8 := Aside0.mk A80
    clear A80
    replace H := Option.bind_eq_some_iff.mp H
    obtain ⟨t150, A90, H⟩ := H
    replace H : (if t148 = t150 then ((num_Sum.f a0 a1).bind fun t151 => ((num_Sum.f a1 a0).bind fun t152 => (if t151 = t152 then ((num_Sum.f a0 0).bind fun t153 => (if t153 = a0 then ((num_Sum.f a0 a1).bind fun t154 => (if t154 ≥ a0 then ((num_Sum.f a0 a1).bind fun t155 => (some (decide (t155 ≥ a1)))) else (some false))) else (some false))) else (some false)))) else (some false)) = some true := H
    have A9 := Aside0.mk A90
    clear A90
    by_cases c10 : t148 = t150
    · rw [if_pos c10] at H
      have c10b0 : (t148 == t150) = true := beq_iff_eq.mpr c10
      have c10b1 : (t148 != t150) = false := bne_eq_false_iff_eq.mpr c10
      clear c10
      replace H := Option.bind_eq_some_iff.mp H
      obtain ⟨t151, A110, H⟩ := H
      replace H : ((num_Sum.f a1 a0).bind fun t152 => (if t151 = t152 then ((num_Sum.f a0 0).bind fun t153 => (if t153 = a0 then ((num_Sum.f a0 a1).bind fun t154 => (if t154 ≥ a0 then ((num_Sum.f a0 a1).bind fun t155 => (some (decide (t155 ≥ a1)))) else (some false))) else (some false))) else (some false))) = some true := H
      have A11 := Aside0.mk A110
      clear A110
      obtain e_ : t147 = t151 := Option.some.inj (A6.out.symm.trans A11.out)
      subst e_
      replace H := Option.bind_eq_some_iff.mp H
      obtain ⟨t152, A120, H⟩ := H
      replace H : (if t147 = t152 then ((num_Sum.f a0 0).bind fun t153 => (if t153 = a0 then ((num_Sum.f a0 a1).bind fun t154 => (if t154 ≥ a0 then ((num_Sum.f a0 a1).bind fun t155 => (some (decide (t155 ≥ a1)))) else (some false))) else (some false))) else (some false)) = some true := H
      have A12 := Aside0.mk A120
      clear A120
      by_cases c13 : t147 = t152
      · rw [if_pos c13] at H
        have c13b0 : (t147 == t152) = true := beq_iff_eq.mpr c13
        have c13b1 : (t147 != t152) = false := bne_eq_false_iff_eq.mpr c13
        clear c13
        replace H := Option.bind_eq_some_iff.mp H
        obtain ⟨t153, A140, H⟩ := H
        replace H : (if t153 = a0 then ((num_Sum.f a0 a1).bind fun t154 => (if t154 ≥ a0 then ((num_Sum.f a0 a1).bind fun t155 => (some (decide (t155 ≥ a1)))) else (some false))) else (some false)) = some true := H
        have A14 := Aside0.mk A140
        clear A140
        by_cases c15 : t153 = a0
        · rw [if_pos c15] at H
          have c15b0 : (t153 == a0) = true := beq_iff_eq.mpr c15
          have c15b1 : (t153 != a0) = false := bne_eq_false_iff_eq.mpr c15
          clear c15
          replace H := Option.bind_eq_some_iff.mp H
          obtain ⟨t154, A160, H⟩ := H
          replace H : (if t154 ≥ a0 then ((num_Sum.f a0 a1).bind fun t155 => (some (decide (t155 ≥ a1)))) else (some false)) = some true := H
          have A16 := Aside0.mk A160
          clear A160
          obtain e_ : t147 = t154 := Option.some.inj (A6.out.symm.trans A16.out)
          subst e_
          by_cases c17 : t147 ≥ a0
          · rw [if_pos c17] at H
            have c17b0 : decide (a0 ≤ t147) = true := decide_eq_true c17
            clear c17
            replace H := Option.bind_eq_some_iff.mp H
            obtain ⟨t155, A180, H⟩ := H
            replace H : (some (decide (t155 ≥ a1))) = some true := H
            have A18 := Aside0.mk A180
            clear A180
            obtain e_ : t147 = t155 := Option.some.inj (A6.out.symm.trans A18.out)
            subst e_
            have hres_ : (decide (t147 ≥ a1)) = true := Option.some.inj H
            go_enter Try.func7, Try.ntmps7
            go_wp2_with (first | ((with_reducible refine gate_callee (f := 8) rfl ?_); refine goesL_ (some 9) rfl rfl Try.func8 (by kernel_rfl) rfl #[] rfl (by (try simp only [List.map_toArray, List.map_cons, List.map_nil]); first | done | rfl | (simp only [List.length_drop, List.length_take]; rfl)) ?_; (with_reducible refine (consortlaw01_awake.calls k  true _ A4.out).mono ?_); rintro e w19 ⟨rfl, hb⟩; refine ⟨_, rfl, ?_⟩; have n0_ := Aside0.mk (below_step (by repeat (first | (with_reducible first | exact HB.out | apply below_alloc | apply pw_below_drewN | apply below_drew1) | exact HB.out)) hb); clear HB; have HB := n0_; clear n0_; (try clear hb); (try clear hb2); (try clear hk); (try clear hi)) | ((with_reducible refine gate_callee (f := 13) rfl ?_); refine goesL_ (some 13) rfl rfl Try.func13 (by kernel_rfl) rfl #[.int .u64 a0, .int .u64 a1] rfl (by (try simp only [List.map_toArray, List.map_cons, List.map_nil]); first | done | rfl | (simp only [List.length_drop, List.length_take]; rfl)) ?_; (with_reducible refine (num_Sum.calls a0 a1 t147 _ A6.out).mono ?_); rintro e w' ⟨rfl, ⟨nd, rfl⟩⟩; refine ⟨_, rfl, ?_⟩) | ((with_reducible refine gate_callee (f := 13) rfl ?_); refine goesL_ (some 15) rfl rfl Try.func13 (by kernel_rfl) rfl #[.int .u64 t147, .int .u64 a2] rfl (by (try simp only [List.map_toArray, List.map_cons, List.map_nil]); first | done | rfl | (simp only [List.length_drop, List.length_take]; rfl)) ?_; (with_reducible refine (num_Sum.calls t147 a2 t148 _ A7.out).mono ?_); rintro e w' ⟨rfl, ⟨nd, rfl⟩⟩; refine ⟨_, rfl, ?_⟩) | ((with_reducible refine gate_callee (f := 13) rfl ?_); refine goesL_ (some 19) rfl rfl Try.func13 (by kernel_rfl) rfl #[.int .u64 a1, .int .u64 a2] rfl (by (try simp only [List.map_toArray, List.map_cons, List.map_nil]); first | done | rfl | (simp only [List.length_drop, List.length_take]; rfl)) ?_; (with_reducible refine (num_Sum.calls a1 a2 t149 _ A8.out).mono ?_); rintro e w' ⟨rfl, ⟨nd, rfl⟩⟩; refine ⟨_, rfl, ?_⟩) | ((with_reducible refine gate_callee (f := 13) rfl ?_); refine goesL_ (some 20) rfl rfl Try.func13 (by kernel_rfl) rfl #[.int .u64 a0, .int .u64 t149] rfl (by (try simp only [List.map_toArray, List.map_cons, List.map_nil]); first | done | rfl | (simp only [List.length_drop, List.length_take]; rfl)) ?_; (with_reducible refine (num_Sum.calls a0 t149 t150 _ A9.out).mono ?_); rintro e w' ⟨rfl, ⟨nd, rfl⟩⟩; refine ⟨_, rfl, ?_⟩) | (go_at_call 13; (with_reducible refine (num_Sum.calls a0 a1 t147 _ A11.out).mono ?_); rintro e w' ⟨rfl, ⟨nd, rfl⟩⟩) | (go_at_call 13; (with_reducible refine (num_Sum.calls a1 a0 t152 _ A12.out).mono ?_); rintro e w' ⟨rfl, ⟨nd, rfl⟩⟩) | (go_at_call 13; (with_reducible refine (num_Sum.calls a0 0 t153 _ A14.out).mono ?_); rintro e w' ⟨rfl, ⟨nd, rfl⟩⟩) | (go_at_call 13; (with_reducible refine (num_Sum.calls a0 a1 t147 _ A16.out).mono ?_); rintro e w' ⟨rfl, ⟨nd, rfl⟩⟩) | (go_at_call 13; (with_reducible refine (num_Sum.calls a0 a1 t147 _ A18.out).mono ?_); rintro e w' ⟨rfl, ⟨nd, rfl⟩⟩))
            go_ret
            exact ⟨by first | rfl | (simp [errW_none, errW_some] <;> rfl) | (simp [*, errW_none, errW_some] <;> rfl), by repeat (first | (with_reducible first | exact HB.out | apply below_alloc | apply pw_below_drewN | apply below_drew1) | exact HB.out)⟩
          · rw [if_neg c17] at H
            have c17b0 : decide (a0 ≤ t147) = false := decide_eq_false c17
            clear c17
            exact absurd H (by simp)
        · rw [if_neg c15] at H
          have c15b0 : (t153 == a0) = false := beq_eq_false_iff_ne.mpr c15
          have c15b1 : (t153 != a0) = true := bne_iff_ne.mpr c15
          exact absurd H (by simp)
      · rw [if_neg c13] at H
        have c13b0 : (t147 == t152) = false := beq_eq_false_iff_ne.mpr c13
        have c13b1 : (t147 != t152) = true := bne_iff_ne.mpr c13
        exact absurd H (by simp)
    · rw [if_neg c10] at H
      have c10b0 : (t148 == t150) = false := beq_eq_false_iff_ne.mpr c10
      have c10b1 : (t148 != t150) = true := bne_iff_ne.mpr c10
      exact absurd H (by simp)
  · replace c5 := Bool.eq_false_iff.mpr c5
    subst c5
    have H1 : (some false) = some true := by first | (rw [if_neg (show ¬ (false = true) by decide)] at H; done) | (rw [if_neg (show ¬ (false = true) by decide)] at H; exact H)
    clear H
    have H := H1
    clear H1
    exact absurd H (by simp)

/-- THE ONE PURE STATEMENT of consortlaw01_NumSums: yours. -/
def consortlaw01_NumSums.Pure : Prop := ∀ (a0 : Int) (a1 : Int) (a2 : Int), (Lit.int .u64 a0).wf = true → (Lit.int .u64 a1).wf = true → (Lit.int .u64 a2).wf = true → ∃ k, consortlaw01_NumSums.f k a0 a1 a2 = some true
theorem consortlaw01_NumSums.walk (P : consortlaw01_NumSums.Pure) (a0 : Int) (a1 : Int) (a2 : Int) (w : World) (w0 : (Lit.int .u64 a0).wf = true) (w1 : (Lit.int .u64 a1).wf = true) (w2 : (Lit.int .u64 a2).wf = true) :
    Calls Try.prog 7 #[.int .u64 a0, .int .u64 a1, .int .u64 a2] w fun e w' => e = .returned (.bool true) ∧ Below w.heap.size w w' := by
  obtain ⟨k, h⟩ := P a0 a1 a2 w0 w1 w2
  refine (consortlaw01_NumSums.calls k a0 a1 a2 w h).mono ?_
  rintro e w' ⟨rfl, hd⟩
  exact ⟨rfl, hd⟩

/-! ### consortref01_size: function 23 -/
def consortref01_size.f (a0 : Int) : Option (Int) := if a0 < 0 then (some 0) else (if a0 > 8 then (some 8) else (some a0))
set_option maxHeartbeats 8000000 in
set_option maxRecDepth 100000 in
theorem consortref01_size.calls (a0 : Int) (r : Int) (w : World) (h : consortref01_size.f a0 = some r) :
    Calls Try.prog 23 #[.int .i64 a0] w fun e w' => e = .returned (.int .i64 r) ∧ Drawn0 w w' := by
  have H : (if a0 < 0 then (some 0) else (if a0 > 8 then (some 8) else (some a0))) = some r := h
  clear h
  by_cases c2 : a0 < 0
  · rw [if_pos c2] at H
    have c2b0 : decide (a0 < 0) = true := decide_eq_true c2
    clear c2
    obtain rfl := Option.some.inj H
    go_enter Try.func23, Try.ntmps23
    go_wp2
    go_ret
    exact ⟨by first | rfl | (simp; done) | (simp [*]; done), by repeat (first | exact Drawn0.refl _ | apply Drawn0.step)⟩
  · rw [if_neg c2] at H
    have c2b0 : decide (a0 < 0) = false := decide_eq_false c2
    clear c2
    by_cases c3 : a0 > 8
    · rw [if_pos c3] at H
      have c3b0 : decide (8 < a0) = true := decide_eq_true c3
      clear c3
      obtain rfl := Option.some.inj H
      go_enter Try.func23, Try.ntmps23
      go_wp2
      go_ret
      exact ⟨by first | rfl | (simp; done) | (simp [*]; done), by repeat (first | exact Drawn0.refl _ | apply Drawn0.step)⟩
    · rw [if_neg c3] at H
      have c3b0 : decide (8 < a0) = false := decide_eq_false c3
      clear c3
      obtain rfl := Option.some.inj H
      go_enter Try.func23, Try.ntmps23
      go_wp2
      go_ret
      exact ⟨by first | rfl | (simp; done) | (simp [*]; done), by repeat (first | exact Drawn0.refl _ | apply Drawn0.step)⟩

/-! ### consortref01_Put: function 10 -/
def consortref01_Put.l0 : Nat → ByteArray → Int → Int → ByteArray → Int → Option (ByteArray)
  | 0, _, _, _, _, _ => none
  | k + 1, x0, x1, x2, x7, x8 => (consortref01_size.f x2).bind fun t156 => (if x8 < t156 then ((some (([(Int.tmod x1 256) % 256] : List Int) : List Int)).bind fun y157 => (if (strOfNums y157).size + x7.size ≤ 9223372036854775807 then (consortref01_Put.l0 k x0 (IntKind.u64.wrap (Int.tdiv x1 256)) x2 ((strOfNums y157) ++ x7) (wrap64 (x8 + 1))) else (none))) else (if x0.size + x7.size ≤ 9223372036854775807 then (some (x0 ++ x7)) else (none)))
def consortref01_Put.f (k : Nat) (a0 : ByteArray) (a1 : Int) (a2 : Int) : Option (ByteArray) := consortref01_Put.l0 k a0 a1 a2 (⟨#[]⟩ : ByteArray) 0
theorem consortref01_Put.mono_l : ∀ k, (∀ y0 y1 y2 y3 y4, LeO (consortref01_Put.l0 k y0 y1 y2 y3 y4) (consortref01_Put.l0 (k + 1) y0 y1 y2 y3 y4))
  | 0 => fun _ _ _ _ _ r h => by simp [consortref01_Put.l0] at h
  | k + 1 => by
    have ih0 := consortref01_Put.mono_l k
    · intro y0 y1 y2 y3 y4
      unfold consortref01_Put.l0
      repeat' first
      | (with_reducible exact ih0 _ _ _ _ _)
      | (with_reducible exact LeO.refl _)
      | (with_reducible exact LeO.none _)
      | (with_reducible refine LeO.ite ?_ ?_)
      | (with_reducible refine LeO.bind ?_ (fun _ => ?_))
      | exact ih0 _ _ _ _ _
      | exact LeO.none _
      | refine LeO.ite ?_ ?_
      | refine LeO.bind ?_ (fun _ => ?_)
theorem consortref01_Put.mono : ∀ a0 a1 a2 k, LeO (consortref01_Put.f k a0 a1 a2) (consortref01_Put.f (k + 1) a0 a1 a2) := by
  intro a0 a1 a2 k
  have ih0 := consortref01_Put.mono_l k
  unfold consortref01_Put.f
  repeat' first
      | (with_reducible exact ih0 _ _ _ _ _)
      | (with_reducible exact LeO.refl _)
      | (with_reducible exact LeO.none _)
      | (with_reducible refine LeO.ite ?_ ?_)
      | (with_reducible refine LeO.bind ?_ (fun _ => ?_))
      | exact ih0 _ _ _ _ _
      | exact LeO.none _
      | refine LeO.ite ?_ ?_
      | refine LeO.bind ?_ (fun _ => ?_)
set_option maxHeartbeats 8000000 in
set_option maxRecDepth 100000 in
theorem consortref01_Put.calls (k : Nat) (a0 : ByteArray) (a1 : Int) (a2 : Int) (r : ByteArray) (w : World) (h : consortref01_Put.f k a0 a1 a2 = some r) :
    Calls Try.prog 10 #[.string a0, .int .u64 a1, .int .i64 a2] w fun e w' => e = .returned (.string r) ∧ Below w.heap.size w w' := by
  have HB := Aside0.mk (Below.refl w.heap.size w)
  have H : (consortref01_Put.l0 k a0 a1 a2 (⟨#[]⟩ : ByteArray) 0) = some r := h
  clear h
  have H' := Aside0.mk H
  clear H
  go_enter Try.func10, Try.ntmps10
  go_wp2
  go_loopg [1, 7, 8] k (fun kq v1 v7 v8 w' => ∃ (x1_1 : Int) (x7_1 : ByteArray) (x8_1 : Int), v1 = .int .u64 x1_1 ∧ v7 = .string x7_1 ∧ v8 = .int .i64 x8_1 ∧ Aside0 (consortref01_Put.l0 kq a0 x1_1 a2 x7_1 x8_1 = some r) ∧ Aside0 (kq ≤ k) ∧ Aside0 (Below w.heap.size w w'))
  case atStart => exact ⟨(a1), ((⟨#[]⟩ : ByteArray)), (0), (by first | rfl | (simp; done) | (simp [*]; done)), (by first | rfl | (simp; done) | (simp [*]; done)), (by first | rfl | (simp; done) | (simp [*]; done)), H', ⟨Nat.le_refl _⟩, ⟨by repeat (first | (with_reducible first | exact HB.out | apply below_alloc | apply pw_below_drewN | apply below_drew1) | exact HB.out)⟩⟩
  case round =>
    clear H'
    try clear c1
    try clear p2
    obtain ⟨x1_1, x7_1, x8_1, rfl, rfl, rfl, HA, HK1, HB⟩ := hrel
    cases gk with
    | zero => exact absurd HA.out (by simp [consortref01_Put.l0])
    | succ k1 =>
      have H := HA.out
      clear HA
      simp only [consortref01_Put.l0] at H
      replace H := Option.bind_eq_some_iff.mp H
      obtain ⟨t156, A40, H⟩ := H
      replace H : (if x8_1 < t156 then ((some (([(Int.tmod x1_1 256) % 256] : List Int) : List Int)).bind fun y157 => (if (strOfNums y157).size + x7_1.size ≤ 9223372036854775807 then (consortref01_Put.l0 k1 a0 (IntKind.u64.wrap (Int.tdiv x1_1 256)) a2 ((strOfNums y157) ++ x7_1) (wrap64 (x8_1 + 1))) else (none))) else (if a0.size + x7_1.size ≤ 9223372036854775807 then (some (a0 ++ x7_1)) else (none))) = some r := H
      have A4 := Aside0.mk A40
      clear A40
      by_cases c5 : x8_1 < t156
      · rw [if_pos c5] at H
        have c5b0 : decide (x8_1 < t156) = true := decide_eq_true c5
        clear c5
        obtain ⟨y157, hy157⟩ : ∃ y_ : List Int, y_ = (([(Int.tmod x1_1 256) % 256] : List Int)) := ⟨_, rfl⟩
        replace H : (if (strOfNums y157).size + x7_1.size ≤ 9223372036854775807 then (consortref01_Put.l0 k1 a0 (IntKind.u64.wrap (Int.tdiv x1_1 256)) a2 ((strOfNums y157) ++ x7_1) (wrap64 (x8_1 + 1))) else (none)) = some r := by first | (rw [hy157]; with_reducible exact H) | (have H2_ := (Option.bind_some _ _).symm.trans H; rw [hy157]; with_reducible exact H2_) | (have H2_ := (Option.bind_some _ _).symm.trans H; with_reducible exact H2_) | with_reducible exact H | (rw [hy157]; exact H) | exact H
        have Ny157 := Aside0.mk hy157
        clear hy157
        by_cases c6 : (strOfNums y157).size + x7_1.size ≤ 9223372036854775807
        · rw [if_pos c6] at H
          have c6b0 := eq_true c6
          have c6b1 : decide ((strOfNums y157).size + x7_1.size ≤ 9223372036854775807) = true := decide_eq_true c6
          try have c6b2 : (9223372036854775807 < (strOfNums y157).size + x7_1.size) = False := eq_false (Nat.not_lt.2 c6)
          have H' := Aside0.mk H
          clear H
          go_wp2_with (first | ((with_reducible refine gate_callee (f := 23) rfl ?_); refine goesL_ (some 11) rfl rfl Try.func23 (by kernel_rfl) rfl #[.int .i64 a2] rfl (by (try simp only [List.map_toArray, List.map_cons, List.map_nil]); first | done | rfl | (simp only [List.length_drop, List.length_take]; rfl)) ?_; (with_reducible refine (consortref01_size.calls a2 t156 _ A4.out).mono ?_); rintro e w' ⟨rfl, ⟨nd, rfl⟩⟩; refine ⟨_, rfl, ?_⟩) | ((with_reducible refine gate_dst (N := 18) rfl ?_); refine Kd.R_lit (Kd.int .u8) _ 5 ?hg (N := 18) ?hd (xs := ([(Int.tmod x1_1 256) % 256] : List Int)) (inner := [.int .u8 ((Int.tmod x1_1 256) % 256)]) (ok := fun _ => True) (okp := fun _ => True) ?hr ?hp (fun _ hk => hk) trivial (Below.refl _ _) (Nat.le_refl _) (by simp) ?_; (case hd => rfl); (case hg => rfl); (case hr => first | (go_simp; done) | (go_simp; rfl)); (case hp => exact (Reps.one (show Kd.M (Kd.int .u8) _ _ _ ((Int.tmod x1_1 256) % 256) [.int .u8 ((Int.tmod x1_1 256) % 256)] from rfl) (Reps.none _ _))); intro v158 w7 ho8 hb hg_ hnew_; clear hg_ hnew_; (first | rw [← Ny157.out] at ho8 | (simp only [Int.reduceToNat] at ho8; rw [← Ny157.out] at ho8)); have n0_ := Aside0.mk (Kd.R_lower ho8 (below_size (by repeat (first | (with_reducible first | exact HB.out | apply below_alloc | apply pw_below_drewN | apply below_drew1) | exact HB.out)))); have n1_ := Aside0.mk (below_step (by repeat (first | (with_reducible first | exact HB.out | apply below_alloc | apply pw_below_drewN | apply below_drew1) | exact HB.out)) hb); clear HB; have HO159 := n0_; have HB := n1_; clear n0_ n1_; clear hb ho8; have hcv9 := own_string (P := Try.prog) Try.underlying22 Try.underlying5 Try.underlying9 (Kd.own_of_R HO159.out)))
          go_roundg k1
          case measure => have := HK1.out; omega
          case rel => exact ⟨(IntKind.u64.wrap (Int.tdiv x1_1 256)), ((strOfNums y157) ++ x7_1), (wrap64 (x8_1 + 1)), (by first | rfl | (simp; done) | (simp [*]; done)), (by first | rfl | (simp; done) | (simp [*]; done)), (by first | rfl | (simp; done) | (simp [*]; done)), H', ⟨by have := HK1.out; omega⟩, ⟨by repeat (first | (with_reducible first | exact HB.out | apply below_alloc | apply pw_below_drewN | apply below_drew1) | exact HB.out)⟩⟩
        · rw [if_neg c6] at H
          exact absurd H (by simp)
      · rw [if_neg c5] at H
        have c5b0 : decide (x8_1 < t156) = false := decide_eq_false c5
        clear c5
        by_cases c10 : a0.size + x7_1.size ≤ 9223372036854775807
        · rw [if_pos c10] at H
          have c10b0 := eq_true c10
          have c10b1 : decide (a0.size + x7_1.size ≤ 9223372036854775807) = true := decide_eq_true c10
          try have c10b2 : (9223372036854775807 < a0.size + x7_1.size) = False := eq_false (Nat.not_lt.2 c10)
          obtain rfl := Option.some.inj H
          go_wp2_with (first | ((with_reducible refine gate_callee (f := 23) rfl ?_); refine goesL_ (some 11) rfl rfl Try.func23 (by kernel_rfl) rfl #[.int .i64 a2] rfl (by (try simp only [List.map_toArray, List.map_cons, List.map_nil]); first | done | rfl | (simp only [List.length_drop, List.length_take]; rfl)) ?_; (with_reducible refine (consortref01_size.calls a2 t156 _ A4.out).mono ?_); rintro e w' ⟨rfl, ⟨nd, rfl⟩⟩; refine ⟨_, rfl, ?_⟩))
          go_ret
          exact ⟨by first | rfl | (simp [errW_none, errW_some] <;> rfl) | (simp [*, errW_none, errW_some] <;> rfl), by repeat (first | (with_reducible first | exact HB.out | apply below_alloc | apply pw_below_drewN | apply below_drew1) | exact HB.out)⟩
        · rw [if_neg c10] at H
          exact absurd H (by simp)

-- NOT PRINTED: function 3 (consortlaw01_NumPuts)

/-! ### consortref01_Text: function 17 -/
def consortref01_Text.f (a0 : ByteArray) (a1 : Int) (a2 : Int) : Option (ByteArray × Int × Bool) := if a2 < 0 then (if 0 > (wrap64 ((a0.size : Int) - a1)) then (some ((⟨#[]⟩ : ByteArray), a1, false)) else (if 0 ≤ a1 then (if a1 ≤ (wrap64 (a1 + 0)) then (if (wrap64 (a1 + 0)) ≤ (a0.size : Int) then (some (a0.extract (a1 : Int).toNat ((wrap64 (a1 + 0)) : Int).toNat, wrap64 (a1 + 0), true)) else (none)) else (none)) else (none))) else (if a2 > (wrap64 ((a0.size : Int) - a1)) then (some ((⟨#[]⟩ : ByteArray), a1, false)) else (if 0 ≤ a1 then (if a1 ≤ (wrap64 (a1 + a2)) then (if (wrap64 (a1 + a2)) ≤ (a0.size : Int) then (some (a0.extract (a1 : Int).toNat ((wrap64 (a1 + a2)) : Int).toNat, wrap64 (a1 + a2), true)) else (none)) else (none)) else (none)))
set_option maxHeartbeats 8000000 in
set_option maxRecDepth 100000 in
theorem consortref01_Text.calls (a0 : ByteArray) (a1 : Int) (a2 : Int) (r1 : ByteArray) (r2 : Int) (r3 : Bool) (w : World) (h : consortref01_Text.f a0 a1 a2 = some (r1, r2, r3)) :
    Calls Try.prog 17 #[.string a0, .int .i64 a1, .int .i64 a2] w fun e w' => e = .returned (.tuple #[.string r1, .int .i64 r2, .bool r3]) ∧ Drawn0 w w' := by
  have H : (if a2 < 0 then (if 0 > (wrap64 ((a0.size : Int) - a1)) then (some ((⟨#[]⟩ : ByteArray), a1, false)) else (if 0 ≤ a1 then (if a1 ≤ (wrap64 (a1 + 0)) then (if (wrap64 (a1 + 0)) ≤ (a0.size : Int) then (some (a0.extract (a1 : Int).toNat ((wrap64 (a1 + 0)) : Int).toNat, wrap64 (a1 + 0), true)) else (none)) else (none)) else (none))) else (if a2 > (wrap64 ((a0.size : Int) - a1)) then (some ((⟨#[]⟩ : ByteArray), a1, false)) else (if 0 ≤ a1 then (if a1 ≤ (wrap64 (a1 + a2)) then (if (wrap64 (a1 + a2)) ≤ (a0.size : Int) then (some (a0.extract (a1 : Int).toNat ((wrap64 (a1 + a2)) : Int).toNat, wrap64 (a1 + a2), true)) else (none)) else (none)) else (none)))) = some (r1, r2, r3) := h
  clear h
  by_cases c4 : a2 < 0
  · rw [if_pos c4] at H
    have c4b0 : decide (a2 < 0) = true := decide_eq_true c4
    clear c4
    by_cases c5 : 0 > (wrap64 ((a0.size : Int) - a1))
    · rw [if_pos c5] at H
      have c5b0 : decide ((wrap64 ((a0.size : Int) - a1)) < 0) = true := decide_eq_true c5
      clear c5
      simp only [Option.some.injEq, Prod.mk.injEq] at H
      obtain ⟨rfl, rfl, rfl⟩ := H
      go_enter Try.func17, Try.ntmps17
      go_wp2
      go_ret3
      exact ⟨by first | rfl | (simp; done) | (simp [*]; done), by repeat (first | exact Drawn0.refl _ | apply Drawn0.step)⟩
    · rw [if_neg c5] at H
      have c5b0 : decide ((wrap64 ((a0.size : Int) - a1)) < 0) = false := decide_eq_false c5
      clear c5
      by_cases c6 : 0 ≤ a1
      · rw [if_pos c6] at H
        have c6b0 := eq_true c6
        (try (have c6b0z := c6; simp only [Int.add_zero, Int.zero_add] at c6b0z))
        have c6b1 : decide (0 ≤ a1) = true := decide_eq_true c6
        clear c6
        by_cases c7 : a1 ≤ (wrap64 (a1 + 0))
        · rw [if_pos c7] at H
          have c7b0 := eq_true c7
          (try (have c7b0z := c7; simp only [Int.add_zero, Int.zero_add] at c7b0z))
          have c7b1 : decide (a1 ≤ (wrap64 (a1 + 0))) = true := decide_eq_true c7
          (try (have c7b1z := c7b1; simp only [Int.add_zero, Int.zero_add] at c7b1z))
          by_cases c8 : (wrap64 (a1 + 0)) ≤ (a0.size : Int)
          · rw [if_pos c8] at H
            have c8b0 := eq_true c8
            (try (have c8b0z := c8; simp only [Int.add_zero, Int.zero_add] at c8b0z))
            have c8b1 : decide ((wrap64 (a1 + 0)) ≤ (a0.size : Int)) = true := decide_eq_true c8
            (try (have c8b1z := c8b1; simp only [Int.add_zero, Int.zero_add] at c8b1z))
            simp only [Option.some.injEq, Prod.mk.injEq] at H
            obtain ⟨rfl, rfl, rfl⟩ := H
            go_enter Try.func17, Try.ntmps17
            go_wp2
            go_ret3
            exact ⟨by first | rfl | (simp; done) | (simp [*]; done), by repeat (first | exact Drawn0.refl _ | apply Drawn0.step)⟩
          · rw [if_neg c8] at H
            exact absurd H (by simp)
        · rw [if_neg c7] at H
          exact absurd H (by simp)
      · rw [if_neg c6] at H
        exact absurd H (by simp)
  · rw [if_neg c4] at H
    have c4b0 : decide (a2 < 0) = false := decide_eq_false c4
    clear c4
    by_cases c9 : a2 > (wrap64 ((a0.size : Int) - a1))
    · rw [if_pos c9] at H
      have c9b0 : decide ((wrap64 ((a0.size : Int) - a1)) < a2) = true := decide_eq_true c9
      clear c9
      simp only [Option.some.injEq, Prod.mk.injEq] at H
      obtain ⟨rfl, rfl, rfl⟩ := H
      go_enter Try.func17, Try.ntmps17
      go_wp2
      go_ret3
      exact ⟨by first | rfl | (simp; done) | (simp [*]; done), by repeat (first | exact Drawn0.refl _ | apply Drawn0.step)⟩
    · rw [if_neg c9] at H
      have c9b0 : decide ((wrap64 ((a0.size : Int) - a1)) < a2) = false := decide_eq_false c9
      clear c9
      by_cases c10 : 0 ≤ a1
      · rw [if_pos c10] at H
        have c10b0 := eq_true c10
        (try (have c10b0z := c10; simp only [Int.add_zero, Int.zero_add] at c10b0z))
        have c10b1 : decide (0 ≤ a1) = true := decide_eq_true c10
        clear c10
        by_cases c11 : a1 ≤ (wrap64 (a1 + a2))
        · rw [if_pos c11] at H
          have c11b0 := eq_true c11
          (try (have c11b0z := c11; simp only [Int.add_zero, Int.zero_add] at c11b0z))
          have c11b1 : decide (a1 ≤ (wrap64 (a1 + a2))) = true := decide_eq_true c11
          by_cases c12 : (wrap64 (a1 + a2)) ≤ (a0.size : Int)
          · rw [if_pos c12] at H
            have c12b0 := eq_true c12
            (try (have c12b0z := c12; simp only [Int.add_zero, Int.zero_add] at c12b0z))
            have c12b1 : decide ((wrap64 (a1 + a2)) ≤ (a0.size : Int)) = true := decide_eq_true c12
            simp only [Option.some.injEq, Prod.mk.injEq] at H
            obtain ⟨rfl, rfl, rfl⟩ := H
            go_enter Try.func17, Try.ntmps17
            go_wp2
            go_ret3
            exact ⟨by first | rfl | (simp; done) | (simp [*]; done), by repeat (first | exact Drawn0.refl _ | apply Drawn0.step)⟩
          · rw [if_neg c12] at H
            exact absurd H (by simp)
        · rw [if_neg c11] at H
          exact absurd H (by simp)
      · rw [if_neg c10] at H
        exact absurd H (by simp)

/-! ### consortref01_Num: function 18 -/
def consortref01_Num.f (k : Nat) (a0 : ByteArray) (a1 : Int) (a2 : Int) : Option (Int × Int × Bool) := (consortref01_size.f a2).bind fun t171 => ((consortref01_Text.f a0 a1 t171).bind fun bt172 => ((consortref01_Get.f k bt172.1 0 (bt172.1.size : Int)).bind fun bt175 => (some (bt175.1, bt172.2.1, bt172.2.2))))
theorem consortref01_Num.mono : ∀ a0 a1 a2 k, LeO (consortref01_Num.f k a0 a1 a2) (consortref01_Num.f (k + 1) a0 a1 a2) := by
  intro a0 a1 a2 k
  unfold consortref01_Num.f
  repeat' first
      | (with_reducible exact consortref01_Get.mono _ _ _ _)
      | (with_reducible exact LeO.refl _)
      | (with_reducible exact LeO.none _)
      | (with_reducible refine LeO.ite ?_ ?_)
      | (with_reducible refine LeO.bind ?_ (fun _ => ?_))
      | exact consortref01_Get.mono _ _ _ _
      | exact LeO.none _
      | refine LeO.ite ?_ ?_
      | refine LeO.bind ?_ (fun _ => ?_)
set_option maxHeartbeats 8000000 in
set_option maxRecDepth 100000 in
theorem consortref01_Num.calls (k : Nat) (a0 : ByteArray) (a1 : Int) (a2 : Int) (r1 : Int) (r2 : Int) (r3 : Bool) (w : World) (h : consortref01_Num.f k a0 a1 a2 = some (r1, r2, r3)) :
    Calls Try.prog 18 #[.string a0, .int .i64 a1, .int .i64 a2] w fun e w' => e = .returned (.tuple #[.int .u64 r1, .int .i64 r2, .bool r3]) ∧ Drawn0 w w' := by
  have H : ((consortref01_size.f a2).bind fun t171 => ((consortref01_Text.f a0 a1 t171).bind fun bt172 => ((consortref01_Get.f k bt172.1 0 (bt172.1.size : Int)).bind fun bt175 => (some (bt175.1, bt172.2.1, bt172.2.2))))) = some (r1, r2, r3) := h
  clear h
  replace H := Option.bind_eq_some_iff.mp H
  obtain ⟨t171, A40, H⟩ := H
  replace H : ((consortref01_Text.f a0 a1 t171).bind fun bt172 => ((consortref01_Get.f k bt172.1 0 (bt172.1.size : Int)).bind fun bt175 => (some (bt175.1, bt172.2.1, bt172.2.2)))) = some (r1, r2, r3) := H
  have A4 := Aside0.mk A40
  clear A40
  replace H := Option.bind_eq_some_iff.mp H
  obtain ⟨⟨t172, t173, t174⟩, A50, H⟩ := H
  replace H : ((consortref01_Get.f k t172 0 (t172.size : Int)).bind fun bt175 => (some (bt175.1, t173, t174))) = some (r1, r2, r3) := H
  have A5 := Aside0.mk A50
  clear A50
  replace H := Option.bind_eq_some_iff.mp H
  obtain ⟨⟨t175, t176⟩, A60, H⟩ := H
  replace H : (some (t175, t173, t174)) = some (r1, r2, r3) := H
  have A6 := Aside0.mk A60
  clear A60
  simp only [Option.some.injEq, Prod.mk.injEq] at H
  obtain ⟨rfl, rfl, rfl⟩ := H
  go_enter Try.func18, Try.ntmps18
  go_wp2_with (first | ((with_reducible refine gate_callee (f := 23) rfl ?_); refine goesL_ (some 18) rfl rfl Try.func23 (by kernel_rfl) rfl #[.int .i64 a2] rfl (by (try simp only [List.map_toArray, List.map_cons, List.map_nil]); first | done | rfl | (simp only [List.length_drop, List.length_take]; rfl)) ?_; (with_reducible refine (consortref01_size.calls a2 t171 _ A4.out).mono ?_); rintro e w' ⟨rfl, ⟨nd, rfl⟩⟩; refine ⟨_, rfl, ?_⟩) | ((with_reducible refine gate_callee (f := 17) rfl ?_); refine goesL_ (some 19) rfl rfl Try.func17 (by kernel_rfl) rfl #[.string a0, .int .i64 a1, .int .i64 t171] rfl (by (try simp only [List.map_toArray, List.map_cons, List.map_nil]); first | done | rfl | (simp only [List.length_drop, List.length_take]; rfl)) ?_; (with_reducible refine (consortref01_Text.calls a0 a1 t171 t172 t173 t174 _ A5.out).mono ?_); rintro e w' ⟨rfl, ⟨nd, rfl⟩⟩; refine ⟨_, rfl, ?_⟩) | ((with_reducible refine gate_callee (f := 12) rfl ?_); refine goesL_ (some 27) rfl rfl Try.func12 (by kernel_rfl) rfl #[.string t172, .int .i64 0, .int .i64 (t172.size : Int)] rfl (by (try simp only [List.map_toArray, List.map_cons, List.map_nil]); first | done | rfl | (simp only [List.length_drop, List.length_take]; rfl)) ?_; (with_reducible refine (consortref01_Get.calls k t172 0 (t172.size : Int) t175 t176 _ A6.out).mono ?_); rintro e w' ⟨rfl, ⟨nd, rfl⟩⟩; refine ⟨_, rfl, ?_⟩))
  go_ret3
  exact ⟨by first | rfl | (simp; done) | (simp [*]; done), by repeat (first | exact Drawn0.refl _ | apply Drawn0.step)⟩

end Go.Proofs.Ytjolbpfileiipaa.P
