-- Written by our own program (wip/pr) over the kit's print.py, with contracts of our own.
import Derived.Test.YtaejdmhgfkokdaaPx0
namespace Go.Proofs.Ytaejdmhgfkokdaa.P
open Go.RowKit Go.Proofs.YtaejdmhgfkokdaaW.PrintWords Go.Proofs.YtaejdmhgfkokdaaW.PrintLast Go.Proofs.YtaejdmhgfkokdaaW.PrintMore
attribute [local go_sem] max2_int min2_int max_two min_two max_three min_three max_four min_four   -- for this text's walks alone
set_option linter.unusedVariables false
set_option linter.unusedSimpArgs false

/-! ### num_size: function 13 -/
def num_size.f (a0 : Int) : Option (Int) := some (mx 0 (mn a0 8))
set_option maxHeartbeats 8000000 in
set_option maxRecDepth 100000 in
theorem num_size.calls (a0 : Int) (r : Int) (w : World) (h : num_size.f a0 = some r) :
    Calls Try.prog 13 #[.int .i64 a0] w fun e w' => e = .returned (.int .i64 r) ∧ Below w.heap.size w w' := by
  have HB := Aside0.mk (Below.refl w.heap.size w)
  have H : (some (mx 0 (mn a0 8))) = some r := h
  clear h
  obtain ⟨ji2, hji2⟩ : ∃ j_ : Int, (mn a0 8) = j_ := ⟨_, rfl⟩
  replace H : (some (mx 0 (ji2))) = some r := by first | (rw [hji2] at H; exact H) | (simp only [hji2] at H ⊢; exact H)
  (try (have hji2h : ji2 ≤ 8 := by (rw [← hji2]; unfold mn; (repeat' split) <;> omega)))
  (try (have hji2g : ji2 ≤ 64 := by omega))
  have hji2_ : (if 8 < a0 then 8 else a0) = ji2 := hji2
  obtain ⟨ji3, hji3⟩ : ∃ j_ : Int, (mx 0 (ji2)) = j_ := ⟨_, rfl⟩
  replace H : (some ji3) = some r := by first | (rw [hji3] at H; exact H) | (simp only [hji3] at H ⊢; exact H)
  have hji3_ : (if 0 < (ji2) then (ji2) else 0) = ji3 := hji3
  obtain rfl := Option.some.inj H
  go_enter Try.func13, Try.ntmps13
  go_wp2
  go_ret
  exact ⟨by first | rfl | (simp [errW_none, errW_some] <;> rfl) | (simp only [← hji2, ← hji3]; first | rfl | (simp [errW_none, errW_some] <;> rfl)) | (simp [*, errW_none, errW_some] <;> rfl), by repeat (first | (with_reducible first | exact HB.out | apply below_alloc | apply pw_below_drewN | apply below_drew1) | exact HB.out)⟩

/-! ### num_Put: function 12 -/
def num_Put.l0 : Nat → Int → Int → List Int → Int → Int → Option (List Int)
  | 0, _, _, _, _, _ => none
  | k + 1, x1, x2, x7, x18, x19 => if x19 < x18 then (if 0 ≤ (wrap64 (8 * (wrap64 ((wrap64 (x2 - 1)) - x19)))) then (if x7.length < 140737488355328 then (num_Put.l0 k x1 x2 (x7 ++ [(shr .u64 x1 (wrap64 (8 * (wrap64 ((wrap64 (x2 - 1)) - x19))))) % 256]) x18 (wrap64 (x19 + 1))) else (none)) else (none)) else (some x7)
def num_Put.f (k : Nat) (l0 : List Int) (a1 : Int) (a2 : Int) : Option (List Int) := (num_size.f a2).bind fun t101 => (if 0 ≤ (wrap64 ((l0.length : Int) + t101)) then (if (wrap64 ((l0.length : Int) + t101) : Int).toNat ≤ 281474976710656 then ((some (([] : List Int) : List Int)).bind fun y102 => (if y102.length + l0.length < 140737488355328 then (num_Put.l0 k a1 t101 (y102 ++ l0) t101 0) else (none))) else (none)) else (none))
theorem num_Put.mono_l : ∀ k, (∀ y0 y1 y2 y3 y4, LeO (num_Put.l0 k y0 y1 y2 y3 y4) (num_Put.l0 (k + 1) y0 y1 y2 y3 y4))
  | 0 => fun _ _ _ _ _ r h => by simp [num_Put.l0] at h
  | k + 1 => by
    have ih0 := num_Put.mono_l k
    · intro y0 y1 y2 y3 y4
      unfold num_Put.l0
      repeat' first
      | (with_reducible exact ih0 _ _ _ _ _)
      | (with_reducible exact LeO.refl _)
      | (with_reducible exact LeO.none _)
      | (with_reducible refine LeO.ite ?_ ?_)
      | (with_reducible refine LeO.bind ?_ (fun _ => ?_))
      | exact ih0 _ _ _ _ _
      | exact LeO.none _
      | refine LeO.ite ?_ ?_
      | refine LeO.bind ?_ (fun _ => ?_)
theorem num_Put.mono : ∀ a0 a1 a2 k, LeO (num_Put.f k a0 a1 a2) (num_Put.f (k + 1) a0 a1 a2) := by
  intro a0 a1 a2 k
  have ih0 := num_Put.mono_l k
  unfold num_Put.f
  repeat' first
      | (with_reducible exact ih0 _ _ _ _ _)
      | (with_reducible exact LeO.refl _)
      | (with_reducible exact LeO.none _)
      | (with_reducible refine LeO.ite ?_ ?_)
      | (with_reducible refine LeO.bind ?_ (fun _ => ?_))
      | exact ih0 _ _ _ _ _
      | exact LeO.none _
      | refine LeO.ite ?_ ?_
      | refine LeO.bind ?_ (fun _ => ?_)
set_option maxHeartbeats 8000000 in
set_option maxRecDepth 100000 in
theorem num_Put.calls (k : Nat) (A0 : Option Addr) (c0 : Nat) (l0 : List Int) (a1 : Int) (a2 : Int) (r : List Int) (w : World) (hr0 : Kd.C (Kd.int .u8) w A0 l0.length l0) (hc0 : l0.length ≤ c0) (h : num_Put.f k l0 a1 a2 = some r) :
    Calls Try.prog 12 #[.slice A0 l0.length c0, .int .u64 a1, .int .i64 a2] w fun e w' => ∃ v0_ : Value, e = .returned (v0_) ∧ Kd.R (Kd.int .u8) 5 w' w.heap.size (fun _ => True) v0_ r ∧ Below w.heap.size w w' := by
  have HR0 := Aside0.mk hr0
  have HC0 := Aside0.mk hc0
  clear hr0 hc0
  have HB := Aside0.mk (Below.refl w.heap.size w)
  have H : ((num_size.f a2).bind fun t101 => (if 0 ≤ (wrap64 ((l0.length : Int) + t101)) then (if (wrap64 ((l0.length : Int) + t101) : Int).toNat ≤ 281474976710656 then ((some (([] : List Int) : List Int)).bind fun y102 => (if y102.length + l0.length < 140737488355328 then (num_Put.l0 k a1 t101 (y102 ++ l0) t101 0) else (none))) else (none)) else (none))) = some r := h
  clear h
  replace H := Option.bind_eq_some_iff.mp H
  obtain ⟨t101, A40, H⟩ := H
  replace H : (if 0 ≤ (wrap64 ((l0.length : Int) + t101)) then (if (wrap64 ((l0.length : Int) + t101) : Int).toNat ≤ 281474976710656 then ((some (([] : List Int) : List Int)).bind fun y102 => (if y102.length + l0.length < 140737488355328 then (num_Put.l0 k a1 t101 (y102 ++ l0) t101 0) else (none))) else (none)) else (none)) = some r := H
  have A4 := Aside0.mk A40
  clear A40
  obtain ⟨ji5, hji5⟩ : ∃ j_ : Int, (wrap64 ((l0.length : Int) + t101)) = j_ := ⟨_, rfl⟩
  replace H : (if 0 ≤ (ji5) then (if (ji5 : Int).toNat ≤ 281474976710656 then ((some (([] : List Int) : List Int)).bind fun y102 => (if y102.length + l0.length < 140737488355328 then (num_Put.l0 k a1 t101 (y102 ++ l0) t101 0) else (none))) else (none)) else (none)) = some r := by first | (rw [hji5] at H; exact H) | (simp only [hji5] at H ⊢; exact H)
  (try rw [hji5] at A4)
  have hji5w : (IntKind.i64.wrap ((l0.length : Int) + t101)) = ji5 := (i64_w _).trans hji5
  by_cases c6 : 0 ≤ (ji5)
  · rw [if_pos c6] at H
    have c6b0 := eq_true c6
    have c6b1 : decide (0 ≤ (ji5)) = true := decide_eq_true c6
    clear c6
    by_cases c7 : (ji5 : Int).toNat ≤ 281474976710656
    · rw [if_pos c7] at H
      have c7b0 := eq_true c7
      have c7b1 : decide ((ji5 : Int).toNat ≤ 281474976710656) = true := decide_eq_true c7
      clear c7
      obtain ⟨y102, hy102⟩ : ∃ y_ : List Int, y_ = (([] : List Int)) := ⟨_, rfl⟩
      replace H : (if y102.length + l0.length < 140737488355328 then (num_Put.l0 k a1 t101 (y102 ++ l0) t101 0) else (none)) = some r := by first | (rw [hy102]; with_reducible exact H) | (have H2_ := (Option.bind_some _ _).symm.trans H; rw [hy102]; with_reducible exact H2_) | (have H2_ := (Option.bind_some _ _).symm.trans H; with_reducible exact H2_) | with_reducible exact H | (rw [hy102]; exact H) | exact H
      have Ny102 := Aside0.mk hy102
      clear hy102
      by_cases c8 : y102.length + l0.length < 140737488355328
      · rw [if_pos c8] at H
        have LMc8 := Aside0.mk c8
        clear c8
        obtain ⟨y105, hy105⟩ : ∃ y_ : List Int, y_ = (y102 ++ l0) := ⟨_, rfl⟩
        replace H : (num_Put.l0 k a1 t101 y105 t101 0) = some r := by first | (rw [hy105]; with_reducible exact H) | (have H2_ := (Option.bind_some _ _).symm.trans H; rw [hy105]; with_reducible exact H2_) | (have H2_ := (Option.bind_some _ _).symm.trans H; with_reducible exact H2_) | with_reducible exact H | (rw [hy105]; exact H) | exact H
        have Ny105 := Aside0.mk hy105
        clear hy105
        have H' := Aside0.mk H
        clear H
        go_enter Try.func12, Try.ntmps12
        go_wp2_with (first | ((with_reducible refine gate_callee (f := 13) rfl ?_); refine goesL_ (some 10) rfl rfl Try.func13 (by kernel_rfl) rfl #[.int .i64 a2] rfl (by (try simp only [List.map_toArray, List.map_cons, List.map_nil]); first | done | rfl | (simp only [List.length_drop, List.length_take]; rfl)) ?_; (with_reducible refine (num_size.calls a2 t101 _ A4.out).mono ?_); rintro e w9 ⟨rfl, hb⟩; refine ⟨_, rfl, ?_⟩; have n0_ := Aside0.mk (below_step (by repeat (first | (with_reducible first | exact HB.out | apply below_alloc | apply pw_below_drewN | apply below_drew1) | exact HB.out)) hb); clear HB; have HB := n0_; clear n0_; (try clear hb); (try clear hb2); (try clear hk); (try clear hi)) | ((with_reducible refine gate_dst (N := 15) rfl ?_); refine Go.Proofs.YtaejdmhgfkokdaaXtra.R_make0 (Kd.int .u8) _ 5 rfl (N := 15) rfl 34 _ _ rfl ji5 rfl rfl Try.underlying34 (.int .u8 0) 1 info5 rfl (by decide) (by omega) (ok := fun _ => True) trivial (of_decide_eq_true (by first | (with_reducible assumption) | assumption)) (Nat.le_trans (Nat.mul_le_mul_right _ (of_decide_eq_true (by first | (with_reducible assumption) | assumption) : ji5.toNat ≤ 281474976710656)) (by omega)) (Below.refl _ _) (Nat.le_refl _) ?_; intro v103 w10 ho11 hb hg_ hnew_; clear hg_ hnew_; (first | rw [← Ny102.out] at ho11 | (simp only [Int.reduceToNat] at ho11; rw [← Ny102.out] at ho11)); have n0_ := Aside0.mk (Kd.R_lower ho11 (below_size (by repeat (first | (with_reducible first | exact HB.out | apply below_alloc | apply pw_below_drewN | apply below_drew1) | exact HB.out)))); have n1_ := Aside0.mk (below_step (by repeat (first | (with_reducible first | exact HB.out | apply below_alloc | apply pw_below_drewN | apply below_drew1) | exact HB.out)) hb); clear HB; have HO104 := n0_; have HB := n1_; clear n0_ n1_; clear hb ho11) | ((with_reducible refine gate_builtin (b := .append) (xs := #[.tmp 15, .tmp 16]) rfl ?_); at_builtin; refine Kd.R_append_rows (Kd.int .u8) (w0 := w) w.heap.size rfl (.tmp 15) (.tmp 16) 34 5 (.int .u8 0) 1 rfl Try.underlying34 info5 rfl (by decide) (by omega) v103 y102 l0 _ _ _ (fun _ => True) (fun _ => False) rfl rfl ?aO ?aR (fun _ _ h => h) (fun _ h => h.elim) ?aF ?aB ?aS ?aL ?_; (case aR => repeat (first | exact (Kd.C_below HR0.out HB.out) | (with_reducible refine Kd.C_alloc ?_ _) | (with_reducible refine Kd.C_drewN ?_ _) | (with_reducible refine Kd.C_drew ?_))); (case aB => exact (by repeat (first | (with_reducible first | exact HB.out | apply below_alloc | apply pw_below_drewN | apply below_drew1) | exact HB.out))); (case aF => exact (fun _ _ => trivial)); (case aO => exact (by (with_reducible repeat (first | apply Kd.R_alloc | apply Kd.R_drewN | apply Kd.R_drew)); exact HO104.out)); (case aS => exact (below_size (by repeat (first | (with_reducible first | exact HB.out | apply below_alloc | apply pw_below_drewN | apply below_drew1) | exact HB.out)))); (case aL => have := LMc8.out; omega); intro v106 w12 ho hb hg hat; rw [← Ny105.out] at ho; have n0_ := Aside0.mk (hb); have n1_ := Aside0.mk (ho); clear HB; clear HO104; have HB := n0_; have HO107 := n1_; clear n0_ n1_; clear ho hb hg hat))
        go_loopg [7, 19] k (fun kq v7 v19 w' => ∃ (x7_1 : List Int) (x19_1 : Int), v19 = .int .i64 x19_1 ∧ Aside0 (num_Put.l0 kq a1 t101 x7_1 t101 x19_1 = some r) ∧ Aside0 (kq ≤ k) ∧ Aside0 (Kd.R (Kd.int .u8) 5 w' w.heap.size (fun _ => True) v7 x7_1) ∧ Aside0 (Below w.heap.size w w'))
        case atStart => exact ⟨(y105), (0), (by first | rfl | (simp; done) | (simp [*]; done)), H', ⟨Nat.le_refl _⟩, ⟨by (with_reducible repeat (first | apply Kd.R_alloc | apply Kd.R_drewN | apply Kd.R_drew)); exact HO107.out⟩, ⟨by repeat (first | (with_reducible first | exact HB.out | apply below_alloc | apply pw_below_drewN | apply below_drew1) | exact HB.out)⟩⟩
        case round =>
          clear H'
          try clear c1
          try clear p2
          try clear c6
          try clear c6b0
          try clear c6b1
          try clear p6
          try clear c7
          try clear c7b0
          try clear c7b1
          try clear c8
          try clear c12
          obtain ⟨x7_1, x19_1, rfl, HA, HK1, HO_7, HB⟩ := hrel
          cases gk with
          | zero => exact absurd HA.out (by simp [num_Put.l0])
          | succ k1 =>
            have H := HA.out
            clear HA
            simp only [num_Put.l0] at H
            by_cases c13 : x19_1 < t101
            · rw [if_pos c13] at H
              have c13b0 : decide (x19_1 < t101) = true := decide_eq_true c13
              clear c13
              obtain ⟨ji14, hji14⟩ : ∃ j_ : Int, (wrap64 (8 * (wrap64 ((wrap64 (t101 - 1)) - x19_1)))) = j_ := ⟨_, rfl⟩
              replace H : (if 0 ≤ (ji14) then (if x7_1.length < 140737488355328 then (num_Put.l0 k1 a1 t101 (x7_1 ++ [(shr .u64 a1 (ji14)) % 256]) t101 (wrap64 (x19_1 + 1))) else (none)) else (none)) = some r := by first | (rw [hji14] at H; exact H) | (simp only [hji14] at H ⊢; exact H)
              have hji14w : (IntKind.i64.wrap (8 * (wrap64 ((wrap64 (t101 - 1)) - x19_1)))) = ji14 := (i64_w _).trans hji14
              by_cases c15 : 0 ≤ (ji14)
              · rw [if_pos c15] at H
                have c15b0 := eq_true c15
                have c15b1 : decide (0 ≤ (ji14)) = true := decide_eq_true c15
                clear c15
                obtain ⟨ji16, hji16⟩ : ∃ j_ : Int, (shr .u64 a1 (ji14)) = j_ := ⟨_, rfl⟩
                replace H : (if x7_1.length < 140737488355328 then (num_Put.l0 k1 a1 t101 (x7_1 ++ [(ji16) % 256]) t101 (wrap64 (x19_1 + 1))) else (none)) = some r := by first | (rw [hji16] at H; exact H) | (simp only [hji16] at H ⊢; exact H)
                have hji16_ : (a1 / 2 ^ min (ji14).toNat 64) = ji16 := hji16
                have hji16z : (ji14) ≤ 64 → (a1 / 2 ^ (ji14).toNat) = ji16 := shr_small hji16
                by_cases c17 : x7_1.length < 140737488355328
                · rw [if_pos c17] at H
                  have LMc17 := Aside0.mk c17
                  clear c17
                  obtain ⟨y108, hy108⟩ : ∃ y_ : List Int, y_ = (x7_1 ++ [(ji16) % 256]) := ⟨_, rfl⟩
                  replace H : (num_Put.l0 k1 a1 t101 y108 t101 (wrap64 (x19_1 + 1))) = some r := by first | (rw [hy108]; with_reducible exact H) | (have H2_ := (Option.bind_some _ _).symm.trans H; rw [hy108]; with_reducible exact H2_) | (have H2_ := (Option.bind_some _ _).symm.trans H; with_reducible exact H2_) | with_reducible exact H | (rw [hy108]; exact H) | exact H
                  have Ny108 := Aside0.mk hy108
                  clear hy108
                  have H' := Aside0.mk H
                  clear H
                  go_wp2_with (first | ((with_reducible refine gate_builtin (b := .append) (xs := #[.tmp 22, .tmp 31]) rfl ?_); at_builtin; refine Kd.R_append (Kd.int .u8) (w0 := w) w.heap.size rfl (.tmp 22) (.tmp 31) 34 5 (.int .u8 0) 1 rfl Try.underlying34 info5 rfl (by decide) (by omega) u7 x7_1 ((ji16) % 256) [.int .u8 ((ji16) % 256)] (fun _ => True) (fun _ => False) rfl rfl ?aP (fun _ hk => hk.elim) ?aF ?aO ?aB ?aS ?aL ?_; (case aP => exact rfl); (case aB => exact (by repeat (first | (with_reducible first | exact HB.out | apply below_alloc | apply pw_below_drewN | apply below_drew1) | exact HB.out))); (case aF => exact (fun _ _ => trivial)); (case aO => exact (by (with_reducible repeat (first | apply Kd.R_alloc | apply Kd.R_drewN | apply Kd.R_drew)); exact HO_7.out)); (case aS => exact (below_size (by repeat (first | (with_reducible first | exact HB.out | apply below_alloc | apply pw_below_drewN | apply below_drew1) | exact HB.out)))); (case aL => have := LMc17.out; omega); intro v109 w18 ho hb hg hat; rw [← Ny108.out] at ho; have n0_ := Aside0.mk (hb); have n1_ := Aside0.mk (ho); clear HB; clear HO_7; have HB := n0_; have HO110 := n1_; clear n0_ n1_; clear ho hb hg hat))
                  go_roundg k1
                  case measure => have := HK1.out; omega
                  case rel => exact ⟨(y108), (wrap64 (x19_1 + 1)), (by first | rfl | (simp; done) | (simp [*]; done)), H', ⟨by have := HK1.out; omega⟩, ⟨by (with_reducible repeat (first | apply Kd.R_alloc | apply Kd.R_drewN | apply Kd.R_drew)); exact HO110.out⟩, ⟨by repeat (first | (with_reducible first | exact HB.out | apply below_alloc | apply pw_below_drewN | apply below_drew1) | exact HB.out)⟩⟩
                · rw [if_neg c17] at H
                  exact absurd H (by simp)
              · rw [if_neg c15] at H
                exact absurd H (by simp)
            · rw [if_neg c13] at H
              have c13b0 : decide (x19_1 < t101) = false := decide_eq_false c13
              clear c13
              obtain rfl := Option.some.inj H
              go_wp2
              go_ret
              exact ⟨_, by first | rfl | (simp [errW_none, errW_some] <;> rfl) | (simp only [← hji5]; first | rfl | (simp [errW_none, errW_some] <;> rfl)) | (simp [*, errW_none, errW_some] <;> rfl), by (with_reducible repeat (first | apply Kd.R_alloc | apply Kd.R_drewN | apply Kd.R_drew)); exact HO_7.out, by repeat (first | (with_reducible first | exact HB.out | apply below_alloc | apply pw_below_drewN | apply below_drew1) | exact HB.out)⟩
      · rw [if_neg c8] at H
        exact absurd H (by simp)
    · rw [if_neg c7] at H
      exact absurd H (by simp)
  · rw [if_neg c6] at H
    exact absurd H (by simp)

/-! ### fold_entry: function 11 -/
def fold_entry.f (k : Nat) (a0_0 : Int) (a0_1 : ByteArray) : Option (ByteArray) := if 0 ≤ (mn (a0_1.size : Int) 65535) then (if (mn (a0_1.size : Int) 65535) ≤ (a0_1.size : Int) then ((num_Put.f k (([(a0_0) % 256] : List Int)) (IntKind.u64.wrap (((a0_1.extract 0 ((mn (a0_1.size : Int) 65535) : Int).toNat).size : Int))) 2).bind fun t115 => (if (strOfNums t115).size + (a0_1.extract 0 ((mn (a0_1.size : Int) 65535) : Int).toNat).size ≤ 9223372036854775807 then (some ((strOfNums t115) ++ (a0_1.extract 0 ((mn (a0_1.size : Int) 65535) : Int).toNat))) else (none))) else (none)) else (none)
theorem fold_entry.mono : ∀ a0 a1 k, LeO (fold_entry.f k a0 a1) (fold_entry.f (k + 1) a0 a1) := by
  intro a0 a1 k
  unfold fold_entry.f
  repeat' first
      | (with_reducible exact num_Put.mono _ _ _ _)
      | (with_reducible exact LeO.refl _)
      | (with_reducible exact LeO.none _)
      | (with_reducible refine LeO.ite ?_ ?_)
      | (with_reducible refine LeO.bind ?_ (fun _ => ?_))
      | exact num_Put.mono _ _ _ _
      | exact LeO.none _
      | refine LeO.ite ?_ ?_
      | refine LeO.bind ?_ (fun _ => ?_)
set_option maxHeartbeats 8000000 in
set_option maxRecDepth 100000 in
theorem fold_entry.calls (k : Nat) (a0_0 : Int) (a0_1 : ByteArray) (r : ByteArray) (w : World) (h : fold_entry.f k a0_0 a0_1 = some r) :
    Calls Try.prog 11 #[.agg #[.int .i64 a0_0, .string a0_1]] w fun e w' => e = .returned (.string r) ∧ Below w.heap.size w w' := by
  have hu27 := Try.underlying27
  have HB := Aside0.mk (Below.refl w.heap.size w)
  have H : (if 0 ≤ (mn (a0_1.size : Int) 65535) then (if (mn (a0_1.size : Int) 65535) ≤ (a0_1.size : Int) then ((num_Put.f k (([(a0_0) % 256] : List Int)) (IntKind.u64.wrap (((a0_1.extract 0 ((mn (a0_1.size : Int) 65535) : Int).toNat).size : Int))) 2).bind fun t115 => (if (strOfNums t115).size + (a0_1.extract 0 ((mn (a0_1.size : Int) 65535) : Int).toNat).size ≤ 9223372036854775807 then (some ((strOfNums t115) ++ (a0_1.extract 0 ((mn (a0_1.size : Int) 65535) : Int).toNat))) else (none))) else (none)) else (none)) = some r := h
  clear h
  obtain ⟨ji2, hji2⟩ : ∃ j_ : Int, (mn (a0_1.size : Int) 65535) = j_ := ⟨_, rfl⟩
  replace H : (if 0 ≤ (ji2) then (if (ji2) ≤ (a0_1.size : Int) then ((num_Put.f k (([(a0_0) % 256] : List Int)) (IntKind.u64.wrap (((a0_1.extract 0 ((ji2) : Int).toNat).size : Int))) 2).bind fun t115 => (if (strOfNums t115).size + (a0_1.extract 0 ((ji2) : Int).toNat).size ≤ 9223372036854775807 then (some ((strOfNums t115) ++ (a0_1.extract 0 ((ji2) : Int).toNat))) else (none))) else (none)) else (none)) = some r := by first | (rw [hji2] at H; exact H) | (simp only [hji2] at H ⊢; exact H)
  (try (have hji2h : ji2 ≤ 65535 := by (rw [← hji2]; unfold mn; (repeat' split) <;> omega)))
  (try (have hji2g : ji2 ≤ 64 := by omega))
  (try (have hji2l : 0 ≤ ji2 := by (rw [← hji2]; unfold mn; (repeat' split) <;> omega)))
  (try (have hji2m : 0 ≤ ji2 := by omega))
  have hji2_ : (if 65535 < (a0_1.size : Int) then 65535 else (a0_1.size : Int)) = ji2 := hji2
  by_cases c3 : 0 ≤ (ji2)
  · rw [if_pos c3] at H
    have c3b0 := eq_true c3
    have c3b1 : decide (0 ≤ (ji2)) = true := decide_eq_true c3
    clear c3
    by_cases c4 : (ji2) ≤ (a0_1.size : Int)
    · rw [if_pos c4] at H
      have c4b0 := eq_true c4
      have c4b1 : decide ((ji2) ≤ (a0_1.size : Int)) = true := decide_eq_true c4
      clear c4
      obtain ⟨y112, hy112⟩ : ∃ y_ : List Int, y_ = (([(a0_0) % 256] : List Int)) := ⟨_, rfl⟩
      replace H : ((num_Put.f k y112 (IntKind.u64.wrap (((a0_1.extract 0 ((ji2) : Int).toNat).size : Int))) 2).bind fun t115 => (if (strOfNums t115).size + (a0_1.extract 0 ((ji2) : Int).toNat).size ≤ 9223372036854775807 then (some ((strOfNums t115) ++ (a0_1.extract 0 ((ji2) : Int).toNat))) else (none))) = some r := by first | (rw [hy112]; with_reducible exact H) | (have H2_ := (Option.bind_some _ _).symm.trans H; rw [hy112]; with_reducible exact H2_) | (have H2_ := (Option.bind_some _ _).symm.trans H; with_reducible exact H2_) | with_reducible exact H | (rw [hy112]; exact H) | exact H
      have Ny112 := Aside0.mk hy112
      clear hy112
      replace H := Option.bind_eq_some_iff.mp H
      obtain ⟨t115, A50, H⟩ := H
      replace H : (if (strOfNums t115).size + (a0_1.extract 0 ((ji2) : Int).toNat).size ≤ 9223372036854775807 then (some ((strOfNums t115) ++ (a0_1.extract 0 ((ji2) : Int).toNat))) else (none)) = some r := H
      have A5 := Aside0.mk A50
      have hz_ : (IntKind.u64.wrap (((a0_1.extract 0 ((ji2) : Int).toNat).size : Int))) = max ji2 0 := by
        have : ((a0_1.extract 0 ((ji2) : Int).toNat).size : Int) = max ji2 0 := by simp only [ByteArray.size_extract]; omega
        rw [this]; unfold IntKind.wrap; simp [IntKind.bits]; omega
      rw [hz_] at A50
      replace A5 := Aside0.mk A50
      clear A50 hz_
      by_cases c6 : (strOfNums t115).size + (a0_1.extract 0 ((ji2) : Int).toNat).size ≤ 9223372036854775807
      · rw [if_pos c6] at H
        have c6b0 := eq_true c6
        have c6b1 : decide ((strOfNums t115).size + (a0_1.extract 0 ((ji2) : Int).toNat).size ≤ 9223372036854775807) = true := decide_eq_true c6
        try have c6b2 : (9223372036854775807 < (strOfNums t115).size + (a0_1.extract 0 ((ji2) : Int).toNat).size) = False := eq_false (Nat.not_lt.2 c6)
        obtain rfl := Option.some.inj H
        go_enter Try.func11, Try.ntmps11
        go_wp2_with (first | ((with_reducible refine gate_dst (N := 1) rfl ?_); refine box_event ?hg (N := 1) ?hd (cs := #[.int .i64 a0_0, .string a0_1]) (t := 27) ?hr ?_; (case hd => rfl); (case hg => rfl); (case hr => first | (go_simp; done) | (go_simp; rfl)); intro gb111 hg w7 hbox hb; have n0_ := Aside0.mk (below_step (by repeat (first | (with_reducible first | exact HB.out | apply below_alloc | apply pw_below_drewN | apply below_drew1) | exact HB.out)) hb); have n1_ := Aside0.mk (hbox); have n2_ := Aside0.mk ((by rw [hg]; exact (below_size (by repeat (first | (with_reducible first | exact HB.out | apply below_alloc | apply pw_below_drewN | apply below_drew1) | exact HB.out))) : w.heap.size ≤ gb111)); have n3_ := Aside0.mk ((by rw [hg]; exact (below_size (by repeat (first | (with_reducible first | exact HB.out | apply below_alloc | apply pw_below_drewN | apply below_drew1) | exact HB.out))) : w.heap.size ≤ gb111)); clear HB; have HB := n0_; have BK111 := n1_; have GW111 := n2_; have GE111 := n3_; clear n0_ n1_ n2_ n3_; clear hb hbox hg; have hcz8_0 : w7.cell? ⟨gb111, 0, none⟩ = some (.int .i64 a0_0) := (blk_cell BK111.out 0).trans rfl; have hcz8_1 : w7.cell? ⟨gb111, 1, none⟩ = some (.string a0_1) := (blk_cell BK111.out 1).trans rfl; have hfz8_0 := blk_frozen BK111.out 0; have hfz8_1 := blk_frozen BK111.out 1) | ((with_reducible refine gate_dst (N := 14) rfl ?_); refine Kd.R_lit (Kd.int .u8) _ 5 ?hg (N := 14) ?hd (xs := ([(a0_0) % 256] : List Int)) (inner := [.int .u8 ((a0_0) % 256)]) (ok := fun _ => True) (okp := fun _ => True) ?hr ?hp (fun _ hk => hk) trivial (Below.refl _ _) (Nat.le_refl _) (by simp) ?_; (case hd => rfl); (case hg => rfl); (case hr => first | (go_simp; done) | (go_simp; rfl)); (case hp => exact (Reps.one (show Kd.M (Kd.int .u8) _ _ _ ((a0_0) % 256) [.int .u8 ((a0_0) % 256)] from rfl) (Reps.none _ _))); intro v113 w9 ho10 hb hg_ hnew_; clear hg_ hnew_; (first | rw [← Ny112.out] at ho10 | (simp only [Int.reduceToNat] at ho10; rw [← Ny112.out] at ho10)); have n0_ := Aside0.mk (Kd.R_lower ho10 (below_size (by repeat (first | (with_reducible first | exact HB.out | apply below_alloc | apply pw_below_drewN | apply below_drew1 | refine below_set ?_ GE111.out) | exact HB.out)))); have n1_ := Aside0.mk (blk_below (g := gb111) (o := .cells #[.int .i64 a0_0, .string a0_1] 27 (0, 0)) (by (with_reducible repeat (first | refine blk_drewN ?_ _ | refine blk_drew ?_ | refine blk_alloc ?_ _)); exact BK111.out) hb); have n2_ := Aside0.mk (below_step (by repeat (first | (with_reducible first | exact HB.out | apply below_alloc | apply pw_below_drewN | apply below_drew1 | refine below_set ?_ GE111.out) | exact HB.out)) hb); clear BK111; clear HB; have HO114 := n0_; have BK111 := n1_; have HB := n2_; clear n0_ n1_ n2_; clear hb ho10; obtain ⟨Ao11, co11, eo11⟩ := Kd.R_slice HO114.out; subst eo11) | ((with_reducible refine gate_callee (f := 12) rfl ?_); refine goesL_ (some 18) rfl rfl Try.func12 (by kernel_rfl) rfl #[.slice Ao11 y112.length co11, .int .u64 (max ji2 0), .int .i64 2] rfl (by (try simp only [List.map_toArray, List.map_cons, List.map_nil]); first | done | (simp only [hji2]; rfl) | rfl | (simp only [List.length_drop, List.length_take]; rfl)) ?_; (with_reducible refine (num_Put.calls k _ _ y112 (max ji2 0) 2 t115 _ ?side1 ?side2 A5.out).mono ?_); (case side1 => repeat (first | exact (Kd.R_reads' HO114.out).2.2 | (with_reducible refine Kd.C_alloc ?_ _) | (with_reducible refine Kd.C_drewN ?_ _) | (with_reducible refine Kd.C_drew ?_))); (case side2 => exact (Kd.R_reads' HO114.out).2.1); rintro e w12 ⟨v116, rfl, ho0, hb⟩; refine ⟨_, rfl, ?_⟩; have n0_ := Aside0.mk (Kd.R_elder' (by (with_reducible repeat (first | apply Kd.R_alloc | apply Kd.R_drewN | apply Kd.R_drew)); exact HO114.out) (Kd.R_base ho0) hb); have n1_ := Aside0.mk (Kd.R_lower (Kd.R_new' ho0 (Kd.R_lt (by (with_reducible repeat (first | apply Kd.R_alloc | apply Kd.R_drewN | apply Kd.R_drew)); exact HO114.out))) (below_size (by repeat (first | (with_reducible first | exact HB.out | apply below_alloc | apply pw_below_drewN | apply below_drew1 | refine below_set ?_ GE111.out) | exact HB.out)))); have n2_ := Aside0.mk (blk_below (g := gb111) (o := .cells #[.int .i64 a0_0, .string a0_1] 27 (0, 0)) (by (with_reducible repeat (first | refine blk_drewN ?_ _ | refine blk_drew ?_ | refine blk_alloc ?_ _)); exact BK111.out) hb); have n3_ := Aside0.mk (below_step (by repeat (first | (with_reducible first | exact HB.out | apply below_alloc | apply pw_below_drewN | apply below_drew1 | refine below_set ?_ GE111.out) | exact HB.out)) hb); clear HO114; clear BK111; clear HB; have HO114 := n0_; have HO117 := n1_; have BK111 := n2_; have HB := n3_; clear n0_ n1_ n2_ n3_; (try clear hb); (try clear hb2); (try clear hk); (try clear hi); (try clear ho0); have hcv13 := own_string (P := Try.prog) Try.underlying34 Try.underlying5 Try.underlying9 (Kd.own_of_R HO117.out)))
        go_ret
        exact ⟨by first | rfl | (simp [errW_none, errW_some] <;> rfl) | (simp only [← hji2]; first | rfl | (simp [errW_none, errW_some] <;> rfl)) | (simp [*, errW_none, errW_some] <;> rfl), by repeat (first | (with_reducible first | exact HB.out | apply below_alloc | apply pw_below_drewN | apply below_drew1 | refine below_set ?_ GE111.out) | exact HB.out)⟩
      · rw [if_neg c6] at H
        exact absurd H (by simp)
    · rw [if_neg c4] at H
      exact absurd H (by simp)
  · rw [if_neg c3] at H
    exact absurd H (by simp)

/-! ### fold_Apply: function 9 -/
def fold_Apply.f (k : Nat) (a0 : ByteArray) (a1_0 : Int) (a1_1 : ByteArray) : Option (ByteArray) := (fold_entry.f k a1_0 a1_1).bind fun t119 => (if a0.size + t119.size ≤ 9223372036854775807 then (if 0 ≤ (mx 0 (wrap64 (((a0 ++ t119).size : Int) - 4096))) then (if (mx 0 (wrap64 (((a0 ++ t119).size : Int) - 4096))) ≤ ((a0 ++ t119).size : Int) then (some ((a0 ++ t119).extract ((mx 0 (wrap64 (((a0 ++ t119).size : Int) - 4096))) : Int).toNat (a0 ++ t119).size)) else (none)) else (none)) else (none))
theorem fold_Apply.mono : ∀ a0 a1 a2 k, LeO (fold_Apply.f k a0 a1 a2) (fold_Apply.f (k + 1) a0 a1 a2) := by
  intro a0 a1 a2 k
  unfold fold_Apply.f
  repeat' first
      | (with_reducible exact fold_entry.mono _ _ _)
      | (with_reducible exact LeO.refl _)
      | (with_reducible exact LeO.none _)
      | (with_reducible refine LeO.ite ?_ ?_)
      | (with_reducible refine LeO.bind ?_ (fun _ => ?_))
      | exact fold_entry.mono _ _ _
      | exact LeO.none _
      | refine LeO.ite ?_ ?_
      | refine LeO.bind ?_ (fun _ => ?_)
set_option maxHeartbeats 8000000 in
set_option maxRecDepth 100000 in
theorem fold_Apply.calls (k : Nat) (a0 : ByteArray) (a1_0 : Int) (a1_1 : ByteArray) (r : ByteArray) (w : World) (h : fold_Apply.f k a0 a1_0 a1_1 = some r) :
    Calls Try.prog 9 #[.string a0, .agg #[.int .i64 a1_0, .string a1_1]] w fun e w' => e = .returned (.string r) ∧ Below w.heap.size w w' := by
  have hu27 := Try.underlying27
  have HB := Aside0.mk (Below.refl w.heap.size w)
  have H : ((fold_entry.f k a1_0 a1_1).bind fun t119 => (if a0.size + t119.size ≤ 9223372036854775807 then (if 0 ≤ (mx 0 (wrap64 (((a0 ++ t119).size : Int) - 4096))) then (if (mx 0 (wrap64 (((a0 ++ t119).size : Int) - 4096))) ≤ ((a0 ++ t119).size : Int) then (some ((a0 ++ t119).extract ((mx 0 (wrap64 (((a0 ++ t119).size : Int) - 4096))) : Int).toNat (a0 ++ t119).size)) else (none)) else (none)) else (none))) = some r := h
  clear h
  replace H := Option.bind_eq_some_iff.mp H
  obtain ⟨t119, A30, H⟩ := H
  replace H : (if a0.size + t119.size ≤ 9223372036854775807 then (if 0 ≤ (mx 0 (wrap64 (((a0 ++ t119).size : Int) - 4096))) then (if (mx 0 (wrap64 (((a0 ++ t119).size : Int) - 4096))) ≤ ((a0 ++ t119).size : Int) then (some ((a0 ++ t119).extract ((mx 0 (wrap64 (((a0 ++ t119).size : Int) - 4096))) : Int).toNat (a0 ++ t119).size)) else (none)) else (none)) else (none)) = some r := H
  have A3 := Aside0.mk A30
  clear A30
  by_cases c4 : a0.size + t119.size ≤ 9223372036854775807
  · rw [if_pos c4] at H
    have c4b0 := eq_true c4
    have c4b1 : decide (a0.size + t119.size ≤ 9223372036854775807) = true := decide_eq_true c4
    try have c4b2 : (9223372036854775807 < a0.size + t119.size) = False := eq_false (Nat.not_lt.2 c4)
    obtain ⟨ji5, hji5⟩ : ∃ j_ : Int, (mx 0 (wrap64 (((a0 ++ t119).size : Int) - 4096))) = j_ := ⟨_, rfl⟩
    replace H : (if 0 ≤ (ji5) then (if (ji5) ≤ ((a0 ++ t119).size : Int) then (some ((a0 ++ t119).extract ((ji5) : Int).toNat (a0 ++ t119).size)) else (none)) else (none)) = some r := by first | (rw [hji5] at H; exact H) | (simp only [hji5] at H ⊢; exact H)
    (try rw [hji5] at A3)
    (try (have hji5l : 0 ≤ ji5 := by (rw [← hji5]; unfold mx; (repeat' split) <;> omega)))
    (try (have hji5m : 0 ≤ ji5 := by omega))
    have hji5_ : (if 4096 < (a0.size : Int) + (t119.size : Int) then ((a0.size : Int) + (t119.size : Int) - 4096) else 0) = ji5 := by
      rw [← hji5]; unfold mx wrap64; simp only [ByteArray.size_append, Int.natCast_add]; (repeat' split) <;> omega
    by_cases c6 : 0 ≤ (ji5)
    · rw [if_pos c6] at H
      have c6b0 := eq_true c6
      have c6b1 : decide (0 ≤ (ji5)) = true := decide_eq_true c6
      clear c6
      by_cases c7 : (ji5) ≤ ((a0 ++ t119).size : Int)
      · rw [if_pos c7] at H
        have c7b0 := eq_true c7
        have c7b1 : decide ((ji5) ≤ ((a0 ++ t119).size : Int)) = true := decide_eq_true c7
        obtain rfl := Option.some.inj H
        go_enter Try.func9, Try.ntmps9
        go_wp2_with (first | ((with_reducible refine gate_dst (N := 3) rfl ?_); refine box_event ?hg (N := 3) ?hd (cs := #[.int .i64 a1_0, .string a1_1]) (t := 27) ?hr ?_; (case hd => rfl); (case hg => rfl); (case hr => first | (go_simp; done) | (go_simp; rfl)); intro gb118 hg w8 hbox hb; have n0_ := Aside0.mk (below_step (by repeat (first | (with_reducible first | exact HB.out | apply below_alloc | apply pw_below_drewN | apply below_drew1) | exact HB.out)) hb); have n1_ := Aside0.mk (hbox); have n2_ := Aside0.mk ((by rw [hg]; exact (below_size (by repeat (first | (with_reducible first | exact HB.out | apply below_alloc | apply pw_below_drewN | apply below_drew1) | exact HB.out))) : w.heap.size ≤ gb118)); have n3_ := Aside0.mk ((by rw [hg]; exact (below_size (by repeat (first | (with_reducible first | exact HB.out | apply below_alloc | apply pw_below_drewN | apply below_drew1) | exact HB.out))) : w.heap.size ≤ gb118)); clear HB; have HB := n0_; have BK118 := n1_; have GW118 := n2_; have GE118 := n3_; clear n0_ n1_ n2_ n3_; clear hb hbox hg; have hcz9_0 : w8.cell? ⟨gb118, 0, none⟩ = some (.int .i64 a1_0) := (blk_cell BK118.out 0).trans rfl; have hcz9_1 : w8.cell? ⟨gb118, 1, none⟩ = some (.string a1_1) := (blk_cell BK118.out 1).trans rfl; have hfz9_0 := blk_frozen BK118.out 0; have hfz9_1 := blk_frozen BK118.out 1) | ((with_reducible refine gate_callee (f := 11) rfl ?_); refine goesL_ (some 7) rfl rfl Try.func11 (by kernel_rfl) rfl #[.agg #[.int .i64 a1_0, .string a1_1]] rfl (by (try simp only [List.map_toArray, List.map_cons, List.map_nil]); first | done | rfl | (simp only [List.length_drop, List.length_take]; rfl)) ?_; (with_reducible refine (fold_entry.calls k a1_0 a1_1 t119 _ A3.out).mono ?_); rintro e w10 ⟨rfl, hb⟩; refine ⟨_, rfl, ?_⟩; have n0_ := Aside0.mk (blk_below (g := gb118) (o := .cells #[.int .i64 a1_0, .string a1_1] 27 (0, 0)) (by (with_reducible repeat (first | refine blk_drewN ?_ _ | refine blk_drew ?_ | refine blk_alloc ?_ _)); exact BK118.out) hb); have n1_ := Aside0.mk (below_step (by repeat (first | (with_reducible first | exact HB.out | apply below_alloc | apply pw_below_drewN | apply below_drew1 | refine below_set ?_ GE118.out) | exact HB.out)) hb); clear BK118; clear HB; have BK118 := n0_; have HB := n1_; clear n0_ n1_; (try clear hb); (try clear hb2); (try clear hk); (try clear hi)))
        go_ret
        exact ⟨by first | rfl | (simp [errW_none, errW_some] <;> rfl) | (simp only [← hji5]; first | rfl | (simp [errW_none, errW_some] <;> rfl)) | (simp [*, errW_none, errW_some] <;> rfl), by repeat (first | (with_reducible first | exact HB.out | apply below_alloc | apply pw_below_drewN | apply below_drew1 | refine below_set ?_ GE118.out) | exact HB.out)⟩
      · rw [if_neg c7] at H
        exact absurd H (by simp)
    · rw [if_neg c6] at H
      exact absurd H (by simp)
  · rw [if_neg c4] at H
    exact absurd H (by simp)

/-! ### fold_All: function 10 -/
def fold_All.l0 : Nat → ByteArray → List (S27) → Int → Int → Option (ByteArray)
  | 0, _, _, _, _ => none
  | k + 1, x0, x7, x8, x9 => if x9 < x8 then (if 0 ≤ x9 then (if x9 < (x7.length : Int) then ((fold_Apply.f k x0 ((rd_T27 x7 x9).f0) ((rd_T27 x7 x9).f1)).bind fun t122 => (fold_All.l0 k t122 x7 x8 (wrap64 (x9 + 1)))) else (none)) else (none)) else (some x0)
def fold_All.f (k : Nat) (a0 : ByteArray) (l1 : List (S27)) : Option (ByteArray) := fold_All.l0 k a0 l1 (l1.length : Int) 0
theorem fold_All.mono_l : ∀ k, (∀ y0 y1 y2 y3, LeO (fold_All.l0 k y0 y1 y2 y3) (fold_All.l0 (k + 1) y0 y1 y2 y3))
  | 0 => fun _ _ _ _ r h => by simp [fold_All.l0] at h
  | k + 1 => by
    have ih0 := fold_All.mono_l k
    · intro y0 y1 y2 y3
      unfold fold_All.l0
      repeat' first
      | (with_reducible exact ih0 _ _ _ _)
      | (with_reducible exact fold_Apply.mono _ _ _ _)
      | (with_reducible exact LeO.refl _)
      | (with_reducible exact LeO.none _)
      | (with_reducible refine LeO.ite ?_ ?_)
      | (with_reducible refine LeO.bind ?_ (fun _ => ?_))
      | exact ih0 _ _ _ _
      | exact fold_Apply.mono _ _ _ _
      | exact LeO.none _
      | refine LeO.ite ?_ ?_
      | refine LeO.bind ?_ (fun _ => ?_)
theorem fold_All.mono : ∀ a0 a1 k, LeO (fold_All.f k a0 a1) (fold_All.f (k + 1) a0 a1) := by
  intro a0 a1 k
  have ih0 := fold_All.mono_l k
  unfold fold_All.f
  repeat' first
      | (with_reducible exact ih0 _ _ _ _)
      | (with_reducible exact fold_Apply.mono _ _ _ _)
      | (with_reducible exact LeO.refl _)
      | (with_reducible exact LeO.none _)
      | (with_reducible refine LeO.ite ?_ ?_)
      | (with_reducible refine LeO.bind ?_ (fun _ => ?_))
      | exact ih0 _ _ _ _
      | exact fold_Apply.mono _ _ _ _
      | exact LeO.none _
      | refine LeO.ite ?_ ?_
      | refine LeO.bind ?_ (fun _ => ?_)
set_option maxHeartbeats 8000000 in
set_option maxRecDepth 100000 in
theorem fold_All.calls (k : Nat) (a0 : ByteArray) (A1 : Option Addr) (c1 : Nat) (l1 : List (S27)) (r : ByteArray) (w : World) (hr1 : Kd.C k27 w A1 l1.length l1) (hc1 : l1.length ≤ c1) (h : fold_All.f k a0 l1 = some r) :
    Calls Try.prog 10 #[.string a0, .slice A1 l1.length c1] w fun e w' => e = .returned (.string r) ∧ Below w.heap.size w w' := by
  have hu27 := Try.underlying27
  have HR1 := Aside0.mk hr1
  have HC1 := Aside0.mk hc1
  clear hr1 hc1
  have HB := Aside0.mk (Below.refl w.heap.size w)
  have H : (fold_All.l0 k a0 l1 (l1.length : Int) 0) = some r := h
  clear h
  have H' := Aside0.mk H
  clear H
  go_enter Try.func10, Try.ntmps10
  go_wp2
  go_loopg [0, 9] k (fun kq v0 v9 w' => ∃ (x0_1 : ByteArray) (x9_1 : Int), v0 = .string x0_1 ∧ v9 = .int .i64 x9_1 ∧ Aside0 (fold_All.l0 kq x0_1 l1 (l1.length : Int) x9_1 = some r) ∧ Aside0 (kq ≤ k) ∧ Aside0 (Below w.heap.size w w'))
  case atStart => exact ⟨(a0), (0), (by first | rfl | (simp; done) | (simp [*]; done)), (by first | rfl | (simp; done) | (simp [*]; done)), H', ⟨Nat.le_refl _⟩, ⟨by repeat (first | (with_reducible first | exact HB.out | apply below_alloc | apply pw_below_drewN | apply below_drew1) | exact HB.out)⟩⟩
  case round =>
    clear H'
    try clear c1
    try clear p2
    obtain ⟨x0_1, x9_1, rfl, rfl, HA, HK1, HB⟩ := hrel
    cases gk with
    | zero => exact absurd HA.out (by simp [fold_All.l0])
    | succ k1 =>
      have H := HA.out
      clear HA
      simp only [fold_All.l0] at H
      by_cases c3 : x9_1 < (l1.length : Int)
      · rw [if_pos c3] at H
        have c3b0 : decide (x9_1 < (l1.length : Int)) = true := decide_eq_true c3
        clear c3
        by_cases c4 : 0 ≤ x9_1
        · rw [if_pos c4] at H
          have c4b0 : decide (0 ≤ x9_1) = true := decide_eq_true c4
          clear c4
          by_cases c5 : x9_1 < (l1.length : Int)
          · rw [if_pos c5] at H
            have c5b0 : decide (x9_1 < (l1.length : Int)) = true := decide_eq_true c5
            clear c5
            replace H := Option.bind_eq_some_iff.mp H
            obtain ⟨t122, A60, H⟩ := H
            replace H : (fold_All.l0 k1 t122 l1 (l1.length : Int) (wrap64 (x9_1 + 1))) = some r := H
            have A6 := Aside0.mk A60
            clear A60
            have H' := Aside0.mk H
            clear H
            have p120 : 0 ≤ (x9_1 : Int) := of_decide_eq_true (by first | (with_reducible assumption) | assumption)
            have q120 : x9_1 < (l1.length : Int) := of_decide_eq_true (by first | (with_reducible assumption) | assumption)
            obtain ⟨ad120, e120, hx120_0, hx120_1⟩ := at_T27 HR1.out x9_1 p120 q120
            cases e120
            replace hx120_0 := (HB.out.cell (World.block_lt_of_cell? w _ hx120_0)).trans hx120_0
            replace hx120_1 := (HB.out.cell (World.block_lt_of_cell? w _ hx120_1)).trans hx120_1
            replace p120 := eq_true p120
            replace q120 := eq_true q120
            go_wp2_with (first | ((with_reducible refine gate_dst (N := 6) rfl ?_); refine box_event ?hg (N := 6) ?hd (cs := #[.int .i64 0, .string (⟨#[]⟩ : ByteArray)]) (t := 27) ?hr ?_; (case hd => rfl); (case hg => rfl); (case hr => first | (go_simp; done) | (go_simp; rfl)); intro gb121 hg w7 hbox hb; have n0_ := Aside0.mk (below_step (by repeat (first | (with_reducible first | exact HB.out | apply below_alloc | apply pw_below_drewN | apply below_drew1) | exact HB.out)) hb); have n1_ := Aside0.mk (hbox); have n2_ := Aside0.mk ((by rw [hg]; exact (below_size (by repeat (first | (with_reducible first | exact HB.out | apply below_alloc | apply pw_below_drewN | apply below_drew1) | exact HB.out))) : w.heap.size ≤ gb121)); have n3_ := Aside0.mk ((by rw [hg]; exact (below_size (by repeat (first | (with_reducible first | exact HB.out | apply below_alloc | apply pw_below_drewN | apply below_drew1) | exact HB.out))) : w.heap.size ≤ gb121)); clear HB; have HB := n0_; have BK121 := n1_; have GW121 := n2_; have GE121 := n3_; clear n0_ n1_ n2_ n3_; clear hb hbox hg; have hcz8_0 : w7.cell? ⟨gb121, 0, none⟩ = some (.int .i64 0) := (blk_cell BK121.out 0).trans rfl; have hcz8_1 : w7.cell? ⟨gb121, 1, none⟩ = some (.string (⟨#[]⟩ : ByteArray)) := (blk_cell BK121.out 1).trans rfl; have hfz8_0 := blk_frozen BK121.out 0; have hfz8_1 := blk_frozen BK121.out 1) | ((with_reducible refine gate_callee (f := 9) rfl ?_); refine goesL_ (some 15) rfl rfl Try.func9 (by kernel_rfl) rfl #[.string x0_1, .agg #[.int .i64 ((rd_T27 l1 x9_1).f0), .string ((rd_T27 l1 x9_1).f1)]] rfl (by (try simp only [List.map_toArray, List.map_cons, List.map_nil]); first | done | rfl | (simp only [List.length_drop, List.length_take]; rfl)) ?_; (with_reducible refine (fold_Apply.calls k1 x0_1 ((rd_T27 l1 x9_1).f0) ((rd_T27 l1 x9_1).f1) t122 _ A6.out).mono ?_); rintro e w9 ⟨rfl, hb⟩; refine ⟨_, rfl, ?_⟩; have n0_ := Aside0.mk (blk_below (g := gb121) (o := .cells #[.int .i64 ((rd_T27 l1 x9_1).f0), .string ((rd_T27 l1 x9_1).f1)] 27 (0, 0)) (by (with_reducible repeat (first | refine blk_drewN ?_ _ | refine blk_drew ?_ | refine blk_alloc ?_ _)); refine blk_put (cs := #[.int .i64 ((rd_T27 l1 x9_1).f0), .string (⟨#[]⟩ : ByteArray)]) ?_ 1 _ rfl; (with_reducible repeat (first | refine blk_drewN ?_ _ | refine blk_drew ?_ | refine blk_alloc ?_ _)); refine blk_put (cs := #[.int .i64 0, .string (⟨#[]⟩ : ByteArray)]) ?_ 0 _ rfl; (with_reducible repeat (first | refine blk_drewN ?_ _ | refine blk_drew ?_ | refine blk_alloc ?_ _)); exact BK121.out) hb); have n1_ := Aside0.mk (below_step (by repeat (first | (with_reducible first | exact HB.out | apply below_alloc | apply pw_below_drewN | apply below_drew1 | refine below_set ?_ GE121.out) | exact HB.out)) hb); clear BK121; clear HB; have BK121 := n0_; have HB := n1_; clear n0_ n1_; (try clear hb); (try clear hb2); (try clear hk); (try clear hi)))
            go_roundg k1
            case measure => have := HK1.out; omega
            case rel => exact ⟨(t122), (wrap64 (x9_1 + 1)), (by first | rfl | (simp; done) | (simp [*]; done)), (by first | rfl | (simp; done) | (simp [*]; done)), H', ⟨by have := HK1.out; omega⟩, ⟨by repeat (first | (with_reducible first | exact HB.out | apply below_alloc | apply pw_below_drewN | apply below_drew1 | refine below_set ?_ GE121.out) | exact HB.out)⟩⟩
          · rw [if_neg c5] at H
            exact absurd H (by simp)
        · rw [if_neg c4] at H
          exact absurd H (by simp)
      · rw [if_neg c3] at H
        have c3b0 : decide (x9_1 < (l1.length : Int)) = false := decide_eq_false c3
        clear c3
        obtain rfl := Option.some.inj H
        go_wp2
        go_ret
        exact ⟨by first | rfl | (simp [errW_none, errW_some] <;> rfl) | (simp [*, errW_none, errW_some] <;> rfl), by repeat (first | (with_reducible first | exact HB.out | apply below_alloc | apply pw_below_drewN | apply below_drew1) | exact HB.out)⟩

/-! ### consortlaw22_awake: function 6 -/
def consortlaw22_awake.f (k : Nat)  : Option (Bool) := (fold_Apply.f k (⟨#[]⟩ : ByteArray) 2 (⟨#[104, 105]⟩ : ByteArray)).bind fun t123 => (if t123.toList = ([2, 0, 2, 104, 105] : List UInt8) then ((fold_All.f k (⟨#[97]⟩ : ByteArray) ([] : List (S27))).bind fun t124 => (some (t124.toList == ([97] : List UInt8)))) else (some false))
theorem consortlaw22_awake.mono : ∀ k, LeO (consortlaw22_awake.f k ) (consortlaw22_awake.f (k + 1) ) := by
  intro  k
  unfold consortlaw22_awake.f
  repeat' first
      | (with_reducible exact fold_All.mono _ _ _)
      | (with_reducible exact fold_Apply.mono _ _ _ _)
      | (with_reducible exact LeO.refl _)
      | (with_reducible exact LeO.none _)
      | (with_reducible refine LeO.ite ?_ ?_)
      | (with_reducible refine LeO.bind ?_ (fun _ => ?_))
      | exact fold_All.mono _ _ _
      | exact fold_Apply.mono _ _ _ _
      | exact LeO.none _
      | refine LeO.ite ?_ ?_
      | refine LeO.bind ?_ (fun _ => ?_)
set_option maxHeartbeats 8000000 in
set_option maxRecDepth 100000 in
theorem consortlaw22_awake.calls (k : Nat)  (r : Bool) (w : World) (h : consortlaw22_awake.f k  = some r) :
    Calls Try.prog 6 #[] w fun e w' => e = .returned (.bool r) ∧ Below w.heap.size w w' := by
  have hu27 := Try.underlying27
  have HB := Aside0.mk (Below.refl w.heap.size w)
  have H : ((fold_Apply.f k (⟨#[]⟩ : ByteArray) 2 (⟨#[104, 105]⟩ : ByteArray)).bind fun t123 => (if t123.toList = ([2, 0, 2, 104, 105] : List UInt8) then ((fold_All.f k (⟨#[97]⟩ : ByteArray) ([] : List (S27))).bind fun t124 => (some (t124.toList == ([97] : List UInt8)))) else (some false))) = some r := h
  clear h
  replace H := Option.bind_eq_some_iff.mp H
  obtain ⟨t123, A10, H⟩ := H
  replace H : (if t123.toList = ([2, 0, 2, 104, 105] : List UInt8) then ((fold_All.f k (⟨#[97]⟩ : ByteArray) ([] : List (S27))).bind fun t124 => (some (t124.toList == ([97] : List UInt8)))) else (some false)) = some r := H
  have A1 := Aside0.mk A10
  clear A10
  by_cases c2 : t123.toList = ([2, 0, 2, 104, 105] : List UInt8)
  · rw [if_pos c2] at H
    have c2b0 : (t123.toList == ([2, 0, 2, 104, 105] : List UInt8)) = true := beq_iff_eq.mpr c2
    have c2b1 : (t123.toList != ([2, 0, 2, 104, 105] : List UInt8)) = false := bne_eq_false_iff_eq.mpr c2
    clear c2
    replace H := Option.bind_eq_some_iff.mp H
    obtain ⟨t124, A30, H⟩ := H
    replace H : (some (t124.toList == ([97] : List UInt8))) = some r := H
    have A3 := Aside0.mk A30
    clear A30
    obtain rfl := Option.some.inj H
    go_enter Try.func6, Try.ntmps6
    go_wp2_with (first | ((with_reducible refine gate_callee (f := 9) rfl ?_); refine goesL_ (some 2) rfl rfl Try.func9 (by kernel_rfl) rfl #[.string (⟨#[]⟩ : ByteArray), .agg #[.int .i64 2, .string (⟨#[104, 105]⟩ : ByteArray)]] rfl (by (try simp only [List.map_toArray, List.map_cons, List.map_nil]); first | done | rfl | (simp only [List.length_drop, List.length_take]; rfl)) ?_; (with_reducible refine (fold_Apply.calls k (⟨#[]⟩ : ByteArray) 2 (⟨#[104, 105]⟩ : ByteArray) t123 _ A1.out).mono ?_); rintro e w4 ⟨rfl, hb⟩; refine ⟨_, rfl, ?_⟩; have n0_ := Aside0.mk (below_step (by repeat (first | (with_reducible first | exact HB.out | apply below_alloc | apply pw_below_drewN | apply below_drew1) | exact HB.out)) hb); clear HB; have HB := n0_; clear n0_; (try clear hb); (try clear hb2); (try clear hk); (try clear hi)) | (go_at_call 10; (refine (fold_All.calls k (⟨#[97]⟩ : ByteArray) _ _ ([] : List (S27)) t124 _ ?side1 ?side2 A3.out).mono ?_); (case side1 => exact Kd.C_nil _ _); (case side2 => exact Nat.le_refl _); rintro e w5 ⟨rfl, hb⟩; have n0_ := Aside0.mk (below_step (by repeat (first | (with_reducible first | exact HB.out | apply below_alloc | apply pw_below_drewN | apply below_drew1) | exact HB.out)) hb); clear HB; have HB := n0_; clear n0_; (try clear hb); (try clear hb2); (try clear hk); (try clear hi)))
    go_ret
    exact ⟨by first | rfl | (simp [errW_none, errW_some] <;> rfl) | (simp [*, errW_none, errW_some] <;> rfl), by repeat (first | (with_reducible first | exact HB.out | apply below_alloc | apply pw_below_drewN | apply below_drew1) | exact HB.out)⟩
  · rw [if_neg c2] at H
    have c2b0 : (t123.toList == ([2, 0, 2, 104, 105] : List UInt8)) = false := beq_eq_false_iff_ne.mpr c2
    have c2b1 : (t123.toList != ([2, 0, 2, 104, 105] : List UInt8)) = true := bne_iff_ne.mpr c2
    obtain rfl := Option.some.inj H
    go_enter Try.func6, Try.ntmps6
    go_wp2_with (first | ((with_reducible refine gate_callee (f := 9) rfl ?_); refine goesL_ (some 2) rfl rfl Try.func9 (by kernel_rfl) rfl #[.string (⟨#[]⟩ : ByteArray), .agg #[.int .i64 2, .string (⟨#[104, 105]⟩ : ByteArray)]] rfl (by (try simp only [List.map_toArray, List.map_cons, List.map_nil]); first | done | rfl | (simp only [List.length_drop, List.length_take]; rfl)) ?_; (with_reducible refine (fold_Apply.calls k (⟨#[]⟩ : ByteArray) 2 (⟨#[104, 105]⟩ : ByteArray) t123 _ A1.out).mono ?_); rintro e w6 ⟨rfl, hb⟩; refine ⟨_, rfl, ?_⟩; have n0_ := Aside0.mk (below_step (by repeat (first | (with_reducible first | exact HB.out | apply below_alloc | apply pw_below_drewN | apply below_drew1) | exact HB.out)) hb); clear HB; have HB := n0_; clear n0_; (try clear hb); (try clear hb2); (try clear hk); (try clear hi)))
    go_ret
    exact ⟨by first | rfl | (simp [errW_none, errW_some] <;> rfl) | (simp [*, errW_none, errW_some] <;> rfl), by repeat (first | (with_reducible first | exact HB.out | apply below_alloc | apply pw_below_drewN | apply below_drew1) | exact HB.out)⟩

/-! ### consortlaw22_few: function 7 -/
def consortlaw22_few.l0 : Nat → List (S27) → Int → Int → Option (Bool)
  | 0, _, _, _ => none
  | k + 1, x0, x3, x4 => if x4 < (x0.length : Int) then (if 0 ≤ x4 then (if x4 ≥ 300 then (some false) else (if (wrap64 ((wrap64 (x3 + 1)) + (mn (((rd_T27 x0 x4).f1).size : Int) 100000))) > 100000 then (some false) else (consortlaw22_few.l0 k x0 (wrap64 ((wrap64 (x3 + 1)) + (mn (((rd_T27 x0 x4).f1).size : Int) 100000))) (wrap64 (x4 + 1))))) else (none)) else (some true)
def consortlaw22_few.f (k : Nat) (l0 : List (S27)) : Option (Bool) := consortlaw22_few.l0 k l0 0 0
theorem consortlaw22_few.mono_l : ∀ k, (∀ y0 y1 y2, LeO (consortlaw22_few.l0 k y0 y1 y2) (consortlaw22_few.l0 (k + 1) y0 y1 y2))
  | 0 => fun _ _ _ r h => by simp [consortlaw22_few.l0] at h
  | k + 1 => by
    have ih0 := consortlaw22_few.mono_l k
    · intro y0 y1 y2
      unfold consortlaw22_few.l0
      repeat' first
      | (with_reducible exact ih0 _ _ _)
      | (with_reducible exact LeO.refl _)
      | (with_reducible exact LeO.none _)
      | (with_reducible refine LeO.ite ?_ ?_)
      | (with_reducible refine LeO.bind ?_ (fun _ => ?_))
      | exact ih0 _ _ _
      | exact LeO.none _
      | refine LeO.ite ?_ ?_
      | refine LeO.bind ?_ (fun _ => ?_)
theorem consortlaw22_few.mono : ∀ a0 k, LeO (consortlaw22_few.f k a0) (consortlaw22_few.f (k + 1) a0) := by
  intro a0 k
  have ih0 := consortlaw22_few.mono_l k
  unfold consortlaw22_few.f
  repeat' first
      | (with_reducible exact ih0 _ _ _)
      | (with_reducible exact LeO.refl _)
      | (with_reducible exact LeO.none _)
      | (with_reducible refine LeO.ite ?_ ?_)
      | (with_reducible refine LeO.bind ?_ (fun _ => ?_))
      | exact ih0 _ _ _
      | exact LeO.none _
      | refine LeO.ite ?_ ?_
      | refine LeO.bind ?_ (fun _ => ?_)
set_option maxHeartbeats 8000000 in
set_option maxRecDepth 100000 in
theorem consortlaw22_few.calls (k : Nat) (A0 : Option Addr) (c0 : Nat) (l0 : List (S27)) (r : Bool) (w : World) (hr0 : Kd.C k27 w A0 l0.length l0) (hc0 : l0.length ≤ c0) (h : consortlaw22_few.f k l0 = some r) :
    Calls Try.prog 7 #[.slice A0 l0.length c0] w fun e w' => e = .returned (.bool r) ∧ Below w.heap.size w w' := by
  have HR0 := Aside0.mk hr0
  have HC0 := Aside0.mk hc0
  clear hr0 hc0
  have HB := Aside0.mk (Below.refl w.heap.size w)
  have H : (consortlaw22_few.l0 k l0 0 0) = some r := h
  clear h
  have H' := Aside0.mk H
  clear H
  go_enter Try.func7, Try.ntmps7
  go_wp2
  go_loopg [3, 4] k (fun kq v3 v4 w' => ∃ (x3_1 : Int) (x4_1 : Int), v3 = .int .i64 x3_1 ∧ v4 = .int .i64 x4_1 ∧ Aside0 (consortlaw22_few.l0 kq l0 x3_1 x4_1 = some r) ∧ Aside0 (kq ≤ k) ∧ Aside0 (Below w.heap.size w w'))
  case atStart => exact ⟨(0), (0), (by first | rfl | (simp; done) | (simp [*]; done)), (by first | rfl | (simp; done) | (simp [*]; done)), H', ⟨Nat.le_refl _⟩, ⟨by repeat (first | (with_reducible first | exact HB.out | apply below_alloc | apply pw_below_drewN | apply below_drew1) | exact HB.out)⟩⟩
  case round =>
    clear H'
    obtain ⟨x3_1, x4_1, rfl, rfl, HA, HK1, HB⟩ := hrel
    cases gk with
    | zero => exact absurd HA.out (by simp [consortlaw22_few.l0])
    | succ k1 =>
      have H := HA.out
      clear HA
      simp only [consortlaw22_few.l0] at H
      by_cases c2 : x4_1 < (l0.length : Int)
      · rw [if_pos c2] at H
        have c2b0 : decide (x4_1 < (l0.length : Int)) = true := decide_eq_true c2
        clear c2
        by_cases c3 : 0 ≤ x4_1
        · rw [if_pos c3] at H
          have c3b0 : decide (0 ≤ x4_1) = true := decide_eq_true c3
          clear c3
          obtain ⟨ji4, hji4⟩ : ∃ j_ : Int, (mn (((rd_T27 l0 x4_1).f1).size : Int) 100000) = j_ := ⟨_, rfl⟩
          replace H : (if x4_1 ≥ 300 then (some false) else (if (wrap64 ((wrap64 (x3_1 + 1)) + (ji4))) > 100000 then (some false) else (consortlaw22_few.l0 k1 l0 (wrap64 ((wrap64 (x3_1 + 1)) + (ji4))) (wrap64 (x4_1 + 1))))) = some r := by first | (rw [hji4] at H; exact H) | (simp only [hji4] at H ⊢; exact H)
          have hji4_ : (if 100000 < (((rd_T27 l0 x4_1).f1).size : Int) then 100000 else (((rd_T27 l0 x4_1).f1).size : Int)) = ji4 := hji4
          by_cases c5 : x4_1 ≥ 300
          · rw [if_pos c5] at H
            have c5b0 : decide (300 ≤ x4_1) = true := decide_eq_true c5
            clear c5
            obtain rfl := Option.some.inj H
            have p125 : 0 ≤ (x4_1 : Int) := of_decide_eq_true (by first | (with_reducible assumption) | assumption)
            have q125 : x4_1 < (l0.length : Int) := of_decide_eq_true (by first | (with_reducible assumption) | assumption)
            obtain ⟨ad125, e125, hx125_0, hx125_1⟩ := at_T27 HR0.out x4_1 p125 q125
            cases e125
            replace hx125_0 := (HB.out.cell (World.block_lt_of_cell? w _ hx125_0)).trans hx125_0
            replace hx125_1 := (HB.out.cell (World.block_lt_of_cell? w _ hx125_1)).trans hx125_1
            replace p125 := eq_true p125
            replace q125 := eq_true q125
            go_wp2
            go_ret
            exact ⟨by first | rfl | (simp [errW_none, errW_some] <;> rfl) | (simp only [← hji4]; first | rfl | (simp [errW_none, errW_some] <;> rfl)) | (simp [*, errW_none, errW_some] <;> rfl), by repeat (first | (with_reducible first | exact HB.out | apply below_alloc | apply pw_below_drewN | apply below_drew1) | exact HB.out)⟩
          · rw [if_neg c5] at H
            have c5b0 : decide (300 ≤ x4_1) = false := decide_eq_false c5
            clear c5
            by_cases c6 : (wrap64 ((wrap64 (x3_1 + 1)) + (ji4))) > 100000
            · rw [if_pos c6] at H
              have c6b0 : decide (100000 < (wrap64 ((wrap64 (x3_1 + 1)) + (ji4)))) = true := decide_eq_true c6
              clear c6
              obtain rfl := Option.some.inj H
              have p125 : 0 ≤ (x4_1 : Int) := of_decide_eq_true (by first | (with_reducible assumption) | assumption)
              have q125 : x4_1 < (l0.length : Int) := of_decide_eq_true (by first | (with_reducible assumption) | assumption)
              obtain ⟨ad125, e125, hx125_0, hx125_1⟩ := at_T27 HR0.out x4_1 p125 q125
              cases e125
              replace hx125_0 := (HB.out.cell (World.block_lt_of_cell? w _ hx125_0)).trans hx125_0
              replace hx125_1 := (HB.out.cell (World.block_lt_of_cell? w _ hx125_1)).trans hx125_1
              replace p125 := eq_true p125
              replace q125 := eq_true q125
              go_wp2
              go_ret
              exact ⟨by first | rfl | (simp [errW_none, errW_some] <;> rfl) | (simp only [← hji4]; first | rfl | (simp [errW_none, errW_some] <;> rfl)) | (simp [*, errW_none, errW_some] <;> rfl), by repeat (first | (with_reducible first | exact HB.out | apply below_alloc | apply pw_below_drewN | apply below_drew1) | exact HB.out)⟩
            · rw [if_neg c6] at H
              have c6b0 : decide (100000 < (wrap64 ((wrap64 (x3_1 + 1)) + (ji4)))) = false := decide_eq_false c6
              clear c6
              have H' := Aside0.mk H
              clear H
              have p125 : 0 ≤ (x4_1 : Int) := of_decide_eq_true (by first | (with_reducible assumption) | assumption)
              have q125 : x4_1 < (l0.length : Int) := of_decide_eq_true (by first | (with_reducible assumption) | assumption)
              obtain ⟨ad125, e125, hx125_0, hx125_1⟩ := at_T27 HR0.out x4_1 p125 q125
              cases e125
              replace hx125_0 := (HB.out.cell (World.block_lt_of_cell? w _ hx125_0)).trans hx125_0
              replace hx125_1 := (HB.out.cell (World.block_lt_of_cell? w _ hx125_1)).trans hx125_1
              replace p125 := eq_true p125
              replace q125 := eq_true q125
              go_wp2
              go_roundg k1
              case measure => have := HK1.out; omega
              case rel => exact ⟨(wrap64 ((wrap64 (x3_1 + 1)) + (ji4))), (wrap64 (x4_1 + 1)), (by first | rfl | (simp; done) | (simp only [← hji4] <;> (first | rfl | simp)) | (simp [*]; done)), (by first | rfl | (simp; done) | (simp [*]; done)), H', ⟨by have := HK1.out; omega⟩, ⟨by repeat (first | (with_reducible first | exact HB.out | apply below_alloc | apply pw_below_drewN | apply below_drew1) | exact HB.out)⟩⟩
        · rw [if_neg c3] at H
          exact absurd H (by simp)
      · rw [if_neg c2] at H
        have c2b0 : decide (x4_1 < (l0.length : Int)) = false := decide_eq_false c2
        clear c2
        obtain rfl := Option.some.inj H
        go_wp2
        go_ret
        exact ⟨by first | rfl | (simp [errW_none, errW_some] <;> rfl) | (simp [*, errW_none, errW_some] <;> rfl), by repeat (first | (with_reducible first | exact HB.out | apply below_alloc | apply pw_below_drewN | apply below_drew1) | exact HB.out)⟩

/-! ### consortref22_Apply: function 8 -/
def consortref22_Apply.f (a0 : ByteArray) (a1 : Int) (a2 : ByteArray) : Option (ByteArray) := if (a2.size : Int) > 65535 then (if 0 ≤ 65535 then (if 65535 ≤ (a2.size : Int) then ((some (([(Int.tmod (IntKind.u64.wrap (a1)) 256) % 256, (wrap64 (((a2.extract 0 65535).size : Int) / 256)) % 256, ((a2.extract 0 65535).size : Int) % 256] : List Int) : List Int)).bind fun y126 => (if a0.size + (strOfNums y126).size ≤ 9223372036854775807 then (if (a0 ++ (strOfNums y126)).size + (a2.extract 0 65535).size ≤ 9223372036854775807 then (if (((a0 ++ (strOfNums y126)) ++ (a2.extract 0 65535)).size : Int) > 4096 then (if 0 ≤ (wrap64 ((((a0 ++ (strOfNums y126)) ++ (a2.extract 0 65535)).size : Int) - 4096)) then (if (wrap64 ((((a0 ++ (strOfNums y126)) ++ (a2.extract 0 65535)).size : Int) - 4096)) ≤ (((a0 ++ (strOfNums y126)) ++ (a2.extract 0 65535)).size : Int) then (some (((a0 ++ (strOfNums y126)) ++ (a2.extract 0 65535)).extract ((wrap64 ((((a0 ++ (strOfNums y126)) ++ (a2.extract 0 65535)).size : Int) - 4096)) : Int).toNat ((a0 ++ (strOfNums y126)) ++ (a2.extract 0 65535)).size)) else (none)) else (none)) else (some ((a0 ++ (strOfNums y126)) ++ (a2.extract 0 65535)))) else (none)) else (none))) else (none)) else (none)) else ((some (([(Int.tmod (IntKind.u64.wrap (a1)) 256) % 256, (wrap64 ((a2.size : Int) / 256)) % 256, (a2.size : Int) % 256] : List Int) : List Int)).bind fun y129 => (if a0.size + (strOfNums y129).size ≤ 9223372036854775807 then (if (a0 ++ (strOfNums y129)).size + a2.size ≤ 9223372036854775807 then (if (((a0 ++ (strOfNums y129)) ++ a2).size : Int) > 4096 then (if 0 ≤ (wrap64 ((((a0 ++ (strOfNums y129)) ++ a2).size : Int) - 4096)) then (if (wrap64 ((((a0 ++ (strOfNums y129)) ++ a2).size : Int) - 4096)) ≤ (((a0 ++ (strOfNums y129)) ++ a2).size : Int) then (some (((a0 ++ (strOfNums y129)) ++ a2).extract ((wrap64 ((((a0 ++ (strOfNums y129)) ++ a2).size : Int) - 4096)) : Int).toNat ((a0 ++ (strOfNums y129)) ++ a2).size)) else (none)) else (none)) else (some ((a0 ++ (strOfNums y129)) ++ a2))) else (none)) else (none)))
set_option maxHeartbeats 8000000 in
set_option maxRecDepth 100000 in
theorem consortref22_Apply.calls (a0 : ByteArray) (a1 : Int) (a2 : ByteArray) (r : ByteArray) (w : World) (h : consortref22_Apply.f a0 a1 a2 = some r) :
    Calls Try.prog 8 #[.string a0, .int .i64 a1, .string a2] w fun e w' => e = .returned (.string r) ∧ Below w.heap.size w w' := by
  have HB := Aside0.mk (Below.refl w.heap.size w)
  have H : (if (a2.size : Int) > 65535 then (if 0 ≤ 65535 then (if 65535 ≤ (a2.size : Int) then ((some (([(Int.tmod (IntKind.u64.wrap (a1)) 256) % 256, (wrap64 (((a2.extract 0 65535).size : Int) / 256)) % 256, ((a2.extract 0 65535).size : Int) % 256] : List Int) : List Int)).bind fun y126 => (if a0.size + (strOfNums y126).size ≤ 9223372036854775807 then (if (a0 ++ (strOfNums y126)).size + (a2.extract 0 65535).size ≤ 9223372036854775807 then (if (((a0 ++ (strOfNums y126)) ++ (a2.extract 0 65535)).size : Int) > 4096 then (if 0 ≤ (wrap64 ((((a0 ++ (strOfNums y126)) ++ (a2.extract 0 65535)).size : Int) - 4096)) then (if (wrap64 ((((a0 ++ (strOfNums y126)) ++ (a2.extract 0 65535)).size : Int) - 4096)) ≤ (((a0 ++ (strOfNums y126)) ++ (a2.extract 0 65535)).size : Int) then (some (((a0 ++ (strOfNums y126)) ++ (a2.extract 0 65535)).extract ((wrap64 ((((a0 ++ (strOfNums y126)) ++ (a2.extract 0 65535)).size : Int) - 4096)) : Int).toNat ((a0 ++ (strOfNums y126)) ++ (a2.extract 0 65535)).size)) else (none)) else (none)) else (some ((a0 ++ (strOfNums y126)) ++ (a2.extract 0 65535)))) else (none)) else (none))) else (none)) else (none)) else ((some (([(Int.tmod (IntKind.u64.wrap (a1)) 256) % 256, (wrap64 ((a2.size : Int) / 256)) % 256, (a2.size : Int) % 256] : List Int) : List Int)).bind fun y129 => (if a0.size + (strOfNums y129).size ≤ 9223372036854775807 then (if (a0 ++ (strOfNums y129)).size + a2.size ≤ 9223372036854775807 then (if (((a0 ++ (strOfNums y129)) ++ a2).size : Int) > 4096 then (if 0 ≤ (wrap64 ((((a0 ++ (strOfNums y129)) ++ a2).size : Int) - 4096)) then (if (wrap64 ((((a0 ++ (strOfNums y129)) ++ a2).size : Int) - 4096)) ≤ (((a0 ++ (strOfNums y129)) ++ a2).size : Int) then (some (((a0 ++ (strOfNums y129)) ++ a2).extract ((wrap64 ((((a0 ++ (strOfNums y129)) ++ a2).size : Int) - 4096)) : Int).toNat ((a0 ++ (strOfNums y129)) ++ a2).size)) else (none)) else (none)) else (some ((a0 ++ (strOfNums y129)) ++ a2))) else (none)) else (none)))) = some r := h
  clear h
  by_cases c4 : (a2.size : Int) > 65535
  · rw [if_pos c4] at H
    have c4b0 : decide (65535 < (a2.size : Int)) = true := decide_eq_true c4
    have c4b1 : decide (65535 < a2.size) = true := decide_eq_true (by omega)
    clear c4
    by_cases c5 : 0 ≤ 65535
    · rw [if_pos c5] at H
      have c5b0 := eq_true c5
      (try (have c5b0s := c5; simp only [ByteArray.size_append, ByteArray.size_extract, Nat.sub_zero, Int.natCast_add] at c5b0s))
      have c5b1 : decide (0 ≤ 65535) = true := decide_eq_true c5
      clear c5
      by_cases c6 : 65535 ≤ (a2.size : Int)
      · rw [if_pos c6] at H
        have c6b0 := eq_true c6
        (try (have c6b0s := c6; simp only [ByteArray.size_append, ByteArray.size_extract, Nat.sub_zero, Int.natCast_add] at c6b0s))
        have c6b1 : decide (65535 ≤ (a2.size : Int)) = true := decide_eq_true c6
        clear c6
        obtain ⟨y126, hy126⟩ : ∃ y_ : List Int, y_ = (([(Int.tmod (IntKind.u64.wrap (a1)) 256) % 256, (wrap64 (((a2.extract 0 65535).size : Int) / 256)) % 256, ((a2.extract 0 65535).size : Int) % 256] : List Int)) := ⟨_, rfl⟩
        replace H : (if a0.size + (strOfNums y126).size ≤ 9223372036854775807 then (if (a0 ++ (strOfNums y126)).size + (a2.extract 0 65535).size ≤ 9223372036854775807 then (if (((a0 ++ (strOfNums y126)) ++ (a2.extract 0 65535)).size : Int) > 4096 then (if 0 ≤ (wrap64 ((((a0 ++ (strOfNums y126)) ++ (a2.extract 0 65535)).size : Int) - 4096)) then (if (wrap64 ((((a0 ++ (strOfNums y126)) ++ (a2.extract 0 65535)).size : Int) - 4096)) ≤ (((a0 ++ (strOfNums y126)) ++ (a2.extract 0 65535)).size : Int) then (some (((a0 ++ (strOfNums y126)) ++ (a2.extract 0 65535)).extract ((wrap64 ((((a0 ++ (strOfNums y126)) ++ (a2.extract 0 65535)).size : Int) - 4096)) : Int).toNat ((a0 ++ (strOfNums y126)) ++ (a2.extract 0 65535)).size)) else (none)) else (none)) else (some ((a0 ++ (strOfNums y126)) ++ (a2.extract 0 65535)))) else (none)) else (none)) = some r := by first | (rw [hy126]; with_reducible exact H) | (have H2_ := (Option.bind_some _ _).symm.trans H; rw [hy126]; with_reducible exact H2_) | (have H2_ := (Option.bind_some _ _).symm.trans H; with_reducible exact H2_) | with_reducible exact H | (rw [hy126]; exact H) | exact H
        have hw_ : ([(Int.tmod (IntKind.u64.wrap (a1)) 256) % 256, (wrap64 (((a2.extract 0 65535).size : Int) / 256)) % 256, ((a2.extract 0 65535).size : Int) % 256] : List Int) = ([(Int.tmod (IntKind.u64.wrap (a1)) 256) % 256, ((min 65535 a2.size : Nat) : Int) / 256, ((min 65535 a2.size : Nat) : Int) % 256 % 256] : List Int) := by
          have : (a2.extract 0 65535).size = min 65535 a2.size := by simp only [ByteArray.size_extract]; omega
          unfold wrap64; rw [this]; simp only [List.cons.injEq, and_true, true_and]; omega
        rw [hw_] at hy126
        clear hw_
        have Ny126 := Aside0.mk hy126
        clear hy126
        by_cases c7 : a0.size + (strOfNums y126).size ≤ 9223372036854775807
        · rw [if_pos c7] at H
          have c7b0 := eq_true c7
          (try (have c7b0s := c7; simp only [ByteArray.size_append, ByteArray.size_extract, Nat.sub_zero, Int.natCast_add] at c7b0s))
          have c7b1 : decide (a0.size + (strOfNums y126).size ≤ 9223372036854775807) = true := decide_eq_true c7
          try have c7b2 : (9223372036854775807 < a0.size + (strOfNums y126).size) = False := eq_false (Nat.not_lt.2 c7)
          by_cases c8 : (a0 ++ (strOfNums y126)).size + (a2.extract 0 65535).size ≤ 9223372036854775807
          · rw [if_pos c8] at H
            have c8b0 := eq_true c8
            (try (have c8b0s := c8; simp only [ByteArray.size_append, ByteArray.size_extract, Nat.sub_zero, Int.natCast_add] at c8b0s))
            have c8b1 : decide ((a0 ++ (strOfNums y126)).size + (a2.extract 0 65535).size ≤ 9223372036854775807) = true := decide_eq_true c8
            (try (have c8b1s := c8b1; simp only [ByteArray.size_append, ByteArray.size_extract, Nat.sub_zero, Int.natCast_add] at c8b1s))
            try have c8b2 : (9223372036854775807 < (a0 ++ (strOfNums y126)).size + (a2.extract 0 65535).size) = False := eq_false (Nat.not_lt.2 c8)
            (try (have c8b2s := c8b2; simp only [ByteArray.size_append, ByteArray.size_extract, Nat.sub_zero, Int.natCast_add] at c8b2s))
            by_cases c9 : (((a0 ++ (strOfNums y126)) ++ (a2.extract 0 65535)).size : Int) > 4096
            · rw [if_pos c9] at H
              have c9b0 : decide (4096 < (((a0 ++ (strOfNums y126)) ++ (a2.extract 0 65535)).size : Int)) = true := decide_eq_true c9
              (try (have c9b0s := c9b0; simp only [ByteArray.size_append, ByteArray.size_extract, Nat.sub_zero, Int.natCast_add] at c9b0s))
              have c9b1 : decide (4096 < ((a0 ++ (strOfNums y126)) ++ (a2.extract 0 65535)).size) = true := decide_eq_true (by omega)
              (try (have c9b1s := c9b1; simp only [ByteArray.size_append, ByteArray.size_extract, Nat.sub_zero, Int.natCast_add] at c9b1s))
              clear c9
              obtain ⟨ji10, hji10⟩ : ∃ j_ : Int, (wrap64 ((((a0 ++ (strOfNums y126)) ++ (a2.extract 0 65535)).size : Int) - 4096)) = j_ := ⟨_, rfl⟩
              replace H : (if 0 ≤ (ji10) then (if (ji10) ≤ (((a0 ++ (strOfNums y126)) ++ (a2.extract 0 65535)).size : Int) then (some (((a0 ++ (strOfNums y126)) ++ (a2.extract 0 65535)).extract ((ji10) : Int).toNat ((a0 ++ (strOfNums y126)) ++ (a2.extract 0 65535)).size)) else (none)) else (none)) = some r := by first | (rw [hji10] at H; exact H) | (simp only [hji10] at H ⊢; exact H)
              have hji10w : (IntKind.i64.wrap ((((a0 ++ (strOfNums y126)) ++ (a2.extract 0 65535)).size : Int) - 4096)) = ji10 := (i64_w _).trans hji10
              (try (have hji10ws := hji10w; simp only [ByteArray.size_append, ByteArray.size_extract, Nat.sub_zero, Int.natCast_add] at hji10ws))
              (try (have hji10wt := hji10w; simp only [i64_w, ByteArray.size_append, ByteArray.size_extract, Nat.sub_zero, Int.natCast_add] at hji10wt))
              by_cases c11 : 0 ≤ (ji10)
              · rw [if_pos c11] at H
                have c11b0 := eq_true c11
                (try (have c11b0s := c11; simp only [ByteArray.size_append, ByteArray.size_extract, Nat.sub_zero, Int.natCast_add] at c11b0s))
                have c11b1 : decide (0 ≤ (ji10)) = true := decide_eq_true c11
                clear c11
                by_cases c12 : (ji10) ≤ (((a0 ++ (strOfNums y126)) ++ (a2.extract 0 65535)).size : Int)
                · rw [if_pos c12] at H
                  have c12b0 := eq_true c12
                  (try (have c12b0s := c12; simp only [ByteArray.size_append, ByteArray.size_extract, Nat.sub_zero, Int.natCast_add] at c12b0s))
                  have c12b1 : decide ((ji10) ≤ (((a0 ++ (strOfNums y126)) ++ (a2.extract 0 65535)).size : Int)) = true := decide_eq_true c12
                  (try (have c12b1s := c12b1; simp only [ByteArray.size_append, ByteArray.size_extract, Nat.sub_zero, Int.natCast_add] at c12b1s))
                  obtain rfl := Option.some.inj H
                  go_enter Try.func8, Try.ntmps8
                  go_wp2_with (first | ((with_reducible refine gate_dst (N := 26) rfl ?_); refine Kd.R_lit (Kd.int .u8) _ 5 ?hg (N := 26) ?hd (xs := ([(Int.tmod (IntKind.u64.wrap (a1)) 256) % 256, ((min 65535 a2.size : Nat) : Int) / 256, ((min 65535 a2.size : Nat) : Int) % 256 % 256] : List Int)) (inner := [.int .u8 ((Int.tmod (IntKind.u64.wrap (a1)) 256) % 256), .int .u8 (((min 65535 a2.size : Nat) : Int) / 256), .int .u8 (((min 65535 a2.size : Nat) : Int) % 256 % 256)]) (ok := fun _ => True) (okp := fun _ => True) ?hr ?hp (fun _ hk => hk) trivial (Below.refl _ _) (Nat.le_refl _) (by simp) ?_; (case hd => rfl); (case hg => rfl); (case hr => first | (go_simp; done) | (go_simp; rfl)); (case hp => exact (Reps.one (show Kd.M (Kd.int .u8) _ _ _ ((Int.tmod (IntKind.u64.wrap (a1)) 256) % 256) [.int .u8 ((Int.tmod (IntKind.u64.wrap (a1)) 256) % 256)] from rfl) (Reps.one (show Kd.M (Kd.int .u8) _ _ _ (((min 65535 a2.size : Nat) : Int) / 256) [.int .u8 (((min 65535 a2.size : Nat) : Int) / 256)] from rfl) (Reps.one (show Kd.M (Kd.int .u8) _ _ _ (((min 65535 a2.size : Nat) : Int) % 256 % 256) [.int .u8 (((min 65535 a2.size : Nat) : Int) % 256 % 256)] from rfl) (Reps.none _ _))))); intro v127 w13 ho14 hb hg_ hnew_; clear hg_ hnew_; (first | rw [← Ny126.out] at ho14 | (simp only [Int.reduceToNat] at ho14; rw [← Ny126.out] at ho14)); have n0_ := Aside0.mk (Kd.R_lower ho14 (below_size (by repeat (first | (with_reducible first | exact HB.out | apply below_alloc | apply pw_below_drewN | apply below_drew1) | exact HB.out)))); have n1_ := Aside0.mk (below_step (by repeat (first | (with_reducible first | exact HB.out | apply below_alloc | apply pw_below_drewN | apply below_drew1) | exact HB.out)) hb); clear HB; have HO128 := n0_; have HB := n1_; clear n0_ n1_; clear hb ho14; have hcv15 := own_string (P := Try.prog) Try.underlying34 Try.underlying5 Try.underlying9 (Kd.own_of_R HO128.out)))
                  go_ret
                  exact ⟨by first | rfl | (simp [errW_none, errW_some] <;> rfl) | (simp only [← hji10]; first | rfl | (simp [errW_none, errW_some] <;> rfl)) | (simp [*, errW_none, errW_some] <;> rfl), by repeat (first | (with_reducible first | exact HB.out | apply below_alloc | apply pw_below_drewN | apply below_drew1) | exact HB.out)⟩
                · rw [if_neg c12] at H
                  exact absurd H (by simp)
              · rw [if_neg c11] at H
                exact absurd H (by simp)
            · rw [if_neg c9] at H
              have c9b0 : decide (4096 < (((a0 ++ (strOfNums y126)) ++ (a2.extract 0 65535)).size : Int)) = false := decide_eq_false c9
              (try (have c9b0s := c9b0; simp only [ByteArray.size_append, ByteArray.size_extract, Nat.sub_zero, Int.natCast_add] at c9b0s))
              have c9b1 : decide (4096 < ((a0 ++ (strOfNums y126)) ++ (a2.extract 0 65535)).size) = false := decide_eq_false (by omega)
              (try (have c9b1s := c9b1; simp only [ByteArray.size_append, ByteArray.size_extract, Nat.sub_zero, Int.natCast_add] at c9b1s))
              clear c9
              obtain rfl := Option.some.inj H
              go_enter Try.func8, Try.ntmps8
              go_wp2_with (first | ((with_reducible refine gate_dst (N := 26) rfl ?_); refine Kd.R_lit (Kd.int .u8) _ 5 ?hg (N := 26) ?hd (xs := ([(Int.tmod (IntKind.u64.wrap (a1)) 256) % 256, ((min 65535 a2.size : Nat) : Int) / 256, ((min 65535 a2.size : Nat) : Int) % 256 % 256] : List Int)) (inner := [.int .u8 ((Int.tmod (IntKind.u64.wrap (a1)) 256) % 256), .int .u8 (((min 65535 a2.size : Nat) : Int) / 256), .int .u8 (((min 65535 a2.size : Nat) : Int) % 256 % 256)]) (ok := fun _ => True) (okp := fun _ => True) ?hr ?hp (fun _ hk => hk) trivial (Below.refl _ _) (Nat.le_refl _) (by simp) ?_; (case hd => rfl); (case hg => rfl); (case hr => first | (go_simp; done) | (go_simp; rfl)); (case hp => exact (Reps.one (show Kd.M (Kd.int .u8) _ _ _ ((Int.tmod (IntKind.u64.wrap (a1)) 256) % 256) [.int .u8 ((Int.tmod (IntKind.u64.wrap (a1)) 256) % 256)] from rfl) (Reps.one (show Kd.M (Kd.int .u8) _ _ _ (((min 65535 a2.size : Nat) : Int) / 256) [.int .u8 (((min 65535 a2.size : Nat) : Int) / 256)] from rfl) (Reps.one (show Kd.M (Kd.int .u8) _ _ _ (((min 65535 a2.size : Nat) : Int) % 256 % 256) [.int .u8 (((min 65535 a2.size : Nat) : Int) % 256 % 256)] from rfl) (Reps.none _ _))))); intro v127 w16 ho17 hb hg_ hnew_; clear hg_ hnew_; (first | rw [← Ny126.out] at ho17 | (simp only [Int.reduceToNat] at ho17; rw [← Ny126.out] at ho17)); have n0_ := Aside0.mk (Kd.R_lower ho17 (below_size (by repeat (first | (with_reducible first | exact HB.out | apply below_alloc | apply pw_below_drewN | apply below_drew1) | exact HB.out)))); have n1_ := Aside0.mk (below_step (by repeat (first | (with_reducible first | exact HB.out | apply below_alloc | apply pw_below_drewN | apply below_drew1) | exact HB.out)) hb); clear HB; have HO128 := n0_; have HB := n1_; clear n0_ n1_; clear hb ho17; have hcv18 := own_string (P := Try.prog) Try.underlying34 Try.underlying5 Try.underlying9 (Kd.own_of_R HO128.out)))
              go_ret
              exact ⟨by first | rfl | (simp [errW_none, errW_some] <;> rfl) | (simp [*, errW_none, errW_some] <;> rfl), by repeat (first | (with_reducible first | exact HB.out | apply below_alloc | apply pw_below_drewN | apply below_drew1) | exact HB.out)⟩
          · rw [if_neg c8] at H
            exact absurd H (by simp)
        · rw [if_neg c7] at H
          exact absurd H (by simp)
      · rw [if_neg c6] at H
        exact absurd H (by simp)
    · rw [if_neg c5] at H
      exact absurd H (by simp)
  · rw [if_neg c4] at H
    have c4b0 : decide (65535 < (a2.size : Int)) = false := decide_eq_false c4
    have c4b1 : decide (65535 < a2.size) = false := decide_eq_false (by omega)
    clear c4
    obtain ⟨y129, hy129⟩ : ∃ y_ : List Int, y_ = (([(Int.tmod (IntKind.u64.wrap (a1)) 256) % 256, (wrap64 ((a2.size : Int) / 256)) % 256, (a2.size : Int) % 256] : List Int)) := ⟨_, rfl⟩
    replace H : (if a0.size + (strOfNums y129).size ≤ 9223372036854775807 then (if (a0 ++ (strOfNums y129)).size + a2.size ≤ 9223372036854775807 then (if (((a0 ++ (strOfNums y129)) ++ a2).size : Int) > 4096 then (if 0 ≤ (wrap64 ((((a0 ++ (strOfNums y129)) ++ a2).size : Int) - 4096)) then (if (wrap64 ((((a0 ++ (strOfNums y129)) ++ a2).size : Int) - 4096)) ≤ (((a0 ++ (strOfNums y129)) ++ a2).size : Int) then (some (((a0 ++ (strOfNums y129)) ++ a2).extract ((wrap64 ((((a0 ++ (strOfNums y129)) ++ a2).size : Int) - 4096)) : Int).toNat ((a0 ++ (strOfNums y129)) ++ a2).size)) else (none)) else (none)) else (some ((a0 ++ (strOfNums y129)) ++ a2))) else (none)) else (none)) = some r := by first | (rw [hy129]; with_reducible exact H) | (have H2_ := (Option.bind_some _ _).symm.trans H; rw [hy129]; with_reducible exact H2_) | (have H2_ := (Option.bind_some _ _).symm.trans H; with_reducible exact H2_) | with_reducible exact H | (rw [hy129]; exact H) | exact H
    have hw_ : ([(Int.tmod (IntKind.u64.wrap (a1)) 256) % 256, (wrap64 ((a2.size : Int) / 256)) % 256, (a2.size : Int) % 256] : List Int) = ([(Int.tmod (IntKind.u64.wrap (a1)) 256) % 256, (a2.size : Int) / 256 % 256, (a2.size : Int) % 256] : List Int) := by
      unfold wrap64; simp only [List.cons.injEq, and_true, true_and]; omega
    rw [hw_] at hy129
    clear hw_
    have Ny129 := Aside0.mk hy129
    clear hy129
    by_cases c19 : a0.size + (strOfNums y129).size ≤ 9223372036854775807
    · rw [if_pos c19] at H
      have c19b0 := eq_true c19
      (try (have c19b0s := c19; simp only [ByteArray.size_append, ByteArray.size_extract, Nat.sub_zero, Int.natCast_add] at c19b0s))
      have c19b1 : decide (a0.size + (strOfNums y129).size ≤ 9223372036854775807) = true := decide_eq_true c19
      try have c19b2 : (9223372036854775807 < a0.size + (strOfNums y129).size) = False := eq_false (Nat.not_lt.2 c19)
      by_cases c20 : (a0 ++ (strOfNums y129)).size + a2.size ≤ 9223372036854775807
      · rw [if_pos c20] at H
        have c20b0 := eq_true c20
        (try (have c20b0s := c20; simp only [ByteArray.size_append, ByteArray.size_extract, Nat.sub_zero, Int.natCast_add] at c20b0s))
        have c20b1 : decide ((a0 ++ (strOfNums y129)).size + a2.size ≤ 9223372036854775807) = true := decide_eq_true c20
        (try (have c20b1s := c20b1; simp only [ByteArray.size_append, ByteArray.size_extract, Nat.sub_zero, Int.natCast_add] at c20b1s))
        try have c20b2 : (9223372036854775807 < (a0 ++ (strOfNums y129)).size + a2.size) = False := eq_false (Nat.not_lt.2 c20)
        (try (have c20b2s := c20b2; simp only [ByteArray.size_append, ByteArray.size_extract, Nat.sub_zero, Int.natCast_add] at c20b2s))
        by_cases c21 : (((a0 ++ (strOfNums y129)) ++ a2).size : Int) > 4096
        · rw [if_pos c21] at H
          have c21b0 : decide (4096 < (((a0 ++ (strOfNums y129)) ++ a2).size : Int)) = true := decide_eq_true c21
          (try (have c21b0s := c21b0; simp only [ByteArray.size_append, ByteArray.size_extract, Nat.sub_zero, Int.natCast_add] at c21b0s))
          have c21b1 : decide (4096 < ((a0 ++ (strOfNums y129)) ++ a2).size) = true := decide_eq_true (by omega)
          (try (have c21b1s := c21b1; simp only [ByteArray.size_append, ByteArray.size_extract, Nat.sub_zero, Int.natCast_add] at c21b1s))
          clear c21
          obtain ⟨ji22, hji22⟩ : ∃ j_ : Int, (wrap64 ((((a0 ++ (strOfNums y129)) ++ a2).size : Int) - 4096)) = j_ := ⟨_, rfl⟩
          replace H : (if 0 ≤ (ji22) then (if (ji22) ≤ (((a0 ++ (strOfNums y129)) ++ a2).size : Int) then (some (((a0 ++ (strOfNums y129)) ++ a2).extract ((ji22) : Int).toNat ((a0 ++ (strOfNums y129)) ++ a2).size)) else (none)) else (none)) = some r := by first | (rw [hji22] at H; exact H) | (simp only [hji22] at H ⊢; exact H)
          have hji22w : (IntKind.i64.wrap ((((a0 ++ (strOfNums y129)) ++ a2).size : Int) - 4096)) = ji22 := (i64_w _).trans hji22
          (try (have hji22ws := hji22w; simp only [ByteArray.size_append, ByteArray.size_extract, Nat.sub_zero, Int.natCast_add] at hji22ws))
          (try (have hji22wt := hji22w; simp only [i64_w, ByteArray.size_append, ByteArray.size_extract, Nat.sub_zero, Int.natCast_add] at hji22wt))
          by_cases c23 : 0 ≤ (ji22)
          · rw [if_pos c23] at H
            have c23b0 := eq_true c23
            (try (have c23b0s := c23; simp only [ByteArray.size_append, ByteArray.size_extract, Nat.sub_zero, Int.natCast_add] at c23b0s))
            have c23b1 : decide (0 ≤ (ji22)) = true := decide_eq_true c23
            clear c23
            by_cases c24 : (ji22) ≤ (((a0 ++ (strOfNums y129)) ++ a2).size : Int)
            · rw [if_pos c24] at H
              have c24b0 := eq_true c24
              (try (have c24b0s := c24; simp only [ByteArray.size_append, ByteArray.size_extract, Nat.sub_zero, Int.natCast_add] at c24b0s))
              have c24b1 : decide ((ji22) ≤ (((a0 ++ (strOfNums y129)) ++ a2).size : Int)) = true := decide_eq_true c24
              (try (have c24b1s := c24b1; simp only [ByteArray.size_append, ByteArray.size_extract, Nat.sub_zero, Int.natCast_add] at c24b1s))
              obtain rfl := Option.some.inj H
              go_enter Try.func8, Try.ntmps8
              go_wp2_with (first | ((with_reducible refine gate_dst (N := 26) rfl ?_); refine Kd.R_lit (Kd.int .u8) _ 5 ?hg (N := 26) ?hd (xs := ([(Int.tmod (IntKind.u64.wrap (a1)) 256) % 256, (a2.size : Int) / 256 % 256, (a2.size : Int) % 256] : List Int)) (inner := [.int .u8 ((Int.tmod (IntKind.u64.wrap (a1)) 256) % 256), .int .u8 ((a2.size : Int) / 256 % 256), .int .u8 ((a2.size : Int) % 256)]) (ok := fun _ => True) (okp := fun _ => True) ?hr ?hp (fun _ hk => hk) trivial (Below.refl _ _) (Nat.le_refl _) (by simp) ?_; (case hd => rfl); (case hg => rfl); (case hr => first | (go_simp; done) | (go_simp; rfl)); (case hp => exact (Reps.one (show Kd.M (Kd.int .u8) _ _ _ ((Int.tmod (IntKind.u64.wrap (a1)) 256) % 256) [.int .u8 ((Int.tmod (IntKind.u64.wrap (a1)) 256) % 256)] from rfl) (Reps.one (show Kd.M (Kd.int .u8) _ _ _ ((a2.size : Int) / 256 % 256) [.int .u8 ((a2.size : Int) / 256 % 256)] from rfl) (Reps.one (show Kd.M (Kd.int .u8) _ _ _ ((a2.size : Int) % 256) [.int .u8 ((a2.size : Int) % 256)] from rfl) (Reps.none _ _))))); intro v130 w25 ho26 hb hg_ hnew_; clear hg_ hnew_; (first | rw [← Ny129.out] at ho26 | (simp only [Int.reduceToNat] at ho26; rw [← Ny129.out] at ho26)); have n0_ := Aside0.mk (Kd.R_lower ho26 (below_size (by repeat (first | (with_reducible first | exact HB.out | apply below_alloc | apply pw_below_drewN | apply below_drew1) | exact HB.out)))); have n1_ := Aside0.mk (below_step (by repeat (first | (with_reducible first | exact HB.out | apply below_alloc | apply pw_below_drewN | apply below_drew1) | exact HB.out)) hb); clear HB; have HO131 := n0_; have HB := n1_; clear n0_ n1_; clear hb ho26; have hcv27 := own_string (P := Try.prog) Try.underlying34 Try.underlying5 Try.underlying9 (Kd.own_of_R HO131.out)))
              go_ret
              exact ⟨by first | rfl | (simp [errW_none, errW_some] <;> rfl) | (simp only [← hji22]; first | rfl | (simp [errW_none, errW_some] <;> rfl)) | (simp [*, errW_none, errW_some] <;> rfl), by repeat (first | (with_reducible first | exact HB.out | apply below_alloc | apply pw_below_drewN | apply below_drew1) | exact HB.out)⟩
            · rw [if_neg c24] at H
              exact absurd H (by simp)
          · rw [if_neg c23] at H
            exact absurd H (by simp)
        · rw [if_neg c21] at H
          have c21b0 : decide (4096 < (((a0 ++ (strOfNums y129)) ++ a2).size : Int)) = false := decide_eq_false c21
          (try (have c21b0s := c21b0; simp only [ByteArray.size_append, ByteArray.size_extract, Nat.sub_zero, Int.natCast_add] at c21b0s))
          have c21b1 : decide (4096 < ((a0 ++ (strOfNums y129)) ++ a2).size) = false := decide_eq_false (by omega)
          (try (have c21b1s := c21b1; simp only [ByteArray.size_append, ByteArray.size_extract, Nat.sub_zero, Int.natCast_add] at c21b1s))
          clear c21
          obtain rfl := Option.some.inj H
          go_enter Try.func8, Try.ntmps8
          go_wp2_with (first | ((with_reducible refine gate_dst (N := 26) rfl ?_); refine Kd.R_lit (Kd.int .u8) _ 5 ?hg (N := 26) ?hd (xs := ([(Int.tmod (IntKind.u64.wrap (a1)) 256) % 256, (a2.size : Int) / 256 % 256, (a2.size : Int) % 256] : List Int)) (inner := [.int .u8 ((Int.tmod (IntKind.u64.wrap (a1)) 256) % 256), .int .u8 ((a2.size : Int) / 256 % 256), .int .u8 ((a2.size : Int) % 256)]) (ok := fun _ => True) (okp := fun _ => True) ?hr ?hp (fun _ hk => hk) trivial (Below.refl _ _) (Nat.le_refl _) (by simp) ?_; (case hd => rfl); (case hg => rfl); (case hr => first | (go_simp; done) | (go_simp; rfl)); (case hp => exact (Reps.one (show Kd.M (Kd.int .u8) _ _ _ ((Int.tmod (IntKind.u64.wrap (a1)) 256) % 256) [.int .u8 ((Int.tmod (IntKind.u64.wrap (a1)) 256) % 256)] from rfl) (Reps.one (show Kd.M (Kd.int .u8) _ _ _ ((a2.size : Int) / 256 % 256) [.int .u8 ((a2.size : Int) / 256 % 256)] from rfl) (Reps.one (show Kd.M (Kd.int .u8) _ _ _ ((a2.size : Int) % 256) [.int .u8 ((a2.size : Int) % 256)] from rfl) (Reps.none _ _))))); intro v130 w28 ho29 hb hg_ hnew_; clear hg_ hnew_; (first | rw [← Ny129.out] at ho29 | (simp only [Int.reduceToNat] at ho29; rw [← Ny129.out] at ho29)); have n0_ := Aside0.mk (Kd.R_lower ho29 (below_size (by repeat (first | (with_reducible first | exact HB.out | apply below_alloc | apply pw_below_drewN | apply below_drew1) | exact HB.out)))); have n1_ := Aside0.mk (below_step (by repeat (first | (with_reducible first | exact HB.out | apply below_alloc | apply pw_below_drewN | apply below_drew1) | exact HB.out)) hb); clear HB; have HO131 := n0_; have HB := n1_; clear n0_ n1_; clear hb ho29; have hcv30 := own_string (P := Try.prog) Try.underlying34 Try.underlying5 Try.underlying9 (Kd.own_of_R HO131.out)))
          go_ret
          exact ⟨by first | rfl | (simp [errW_none, errW_some] <;> rfl) | (simp [*, errW_none, errW_some] <;> rfl), by repeat (first | (with_reducible first | exact HB.out | apply below_alloc | apply pw_below_drewN | apply below_drew1) | exact HB.out)⟩
      · rw [if_neg c20] at H
        exact absurd H (by simp)
    · rw [if_neg c19] at H
      exact absurd H (by simp)

end Go.Proofs.Ytaejdmhgfkokdaa.P
