-- Written by our own program (wip/pr) over the kit's print.py, with contracts of our own.
import Derived.Test.YtgpldjckohlkfaaPx0
import Derived.Test.YtgpldjckohlkfaaHandC
namespace Go.Proofs.Ytgpldjckohlkfaa.P
open Go.Proofs.YtgpldjckohlkfaaOv
open Go.RowKit Go.Proofs.YtgpldjckohlkfaaW.PrintWords Go.Proofs.YtgpldjckohlkfaaW.PrintLast Go.Proofs.YtgpldjckohlkfaaW.PrintMore
attribute [local go_sem] max2_int min2_int max_two min_two max_three min_three max_four min_four   -- for this text's walks alone
set_option linter.unusedVariables false
set_option linter.unusedSimpArgs false

/-! ### chunk_Items: function 7 -/
def chunk_Items.l0 : Nat → Int → ByteArray → Int → List (S42) → Int → Int → Option ((List (S42)))
  | 0, _, _, _, _, _, _ => none
  | k + 1, x0, x1, x5, x6, x20, x21 => if x21 < x20 then (if 0 ≤ (wrap64 (x21 * 256)) then (if (wrap64 (x21 * 256)) ≤ (mn (x1.size : Int) (wrap64 ((wrap64 (x21 + 1)) * 256))) then (if (mn (x1.size : Int) (wrap64 ((wrap64 (x21 + 1)) * 256))) ≤ (x1.size : Int) then (if x6.length < 879609302220 then (chunk_Items.l0 k x0 x1 x5 (x6 ++ [(⟨4, x1.extract ((wrap64 (x21 * 256)) : Int).toNat ((mn (x1.size : Int) (wrap64 ((wrap64 (x21 + 1)) * 256))) : Int).toNat, 0, 0, false, false, (⟨(⟨0, (⟨0, 0⟩ : S31), 0⟩ : S33), OV.nil⟩ : S40), (⟨0, (⟨0, 0⟩ : S31), 0⟩ : S33), x0, x21, x5⟩ : S42)]) x20 (wrap64 (x21 + 1))) else (none)) else (none)) else (none)) else (none)) else (some x6)
def chunk_Items.f (k : Nat) (a0 : Int) (a1 : ByteArray) : Option ((List (S42))) := if 0 ≤ (mn (a1.size : Int) 4096) then (if (mn (a1.size : Int) 4096) ≤ (a1.size : Int) then (chunk_Items.l0 k a0 (a1.extract 0 ((mn (a1.size : Int) 4096) : Int).toNat) (mx 1 (wrap64 (Int.tdiv (wrap64 ((wrap64 (((a1.extract 0 ((mn (a1.size : Int) 4096) : Int).toNat).size : Int) + 256)) - 1)) 256))) ([] : List (S42)) (mx 1 (wrap64 (Int.tdiv (wrap64 ((wrap64 (((a1.extract 0 ((mn (a1.size : Int) 4096) : Int).toNat).size : Int) + 256)) - 1)) 256))) 0) else (none)) else (none)
theorem chunk_Items.mono_l : ∀ k, (∀ y0 y1 y2 y3 y4 y5, LeO (chunk_Items.l0 k y0 y1 y2 y3 y4 y5) (chunk_Items.l0 (k + 1) y0 y1 y2 y3 y4 y5))
  | 0 => fun _ _ _ _ _ _ r h => by simp [chunk_Items.l0] at h
  | k + 1 => by
    have ih0 := chunk_Items.mono_l k
    · intro y0 y1 y2 y3 y4 y5
      unfold chunk_Items.l0
      repeat' first
      | (with_reducible exact ih0 _ _ _ _ _ _)
      | (with_reducible exact LeO.refl _)
      | (with_reducible exact LeO.none _)
      | (with_reducible refine LeO.ite ?_ ?_)
      | (with_reducible refine LeO.bind ?_ (fun _ => ?_))
      | exact ih0 _ _ _ _ _ _
      | exact LeO.none _
      | refine LeO.ite ?_ ?_
      | refine LeO.bind ?_ (fun _ => ?_)
theorem chunk_Items.mono : ∀ a0 a1 k, LeO (chunk_Items.f k a0 a1) (chunk_Items.f (k + 1) a0 a1) := by
  intro a0 a1 k
  have ih0 := chunk_Items.mono_l k
  unfold chunk_Items.f
  repeat' first
      | (with_reducible exact ih0 _ _ _ _ _ _)
      | (with_reducible exact LeO.refl _)
      | (with_reducible exact LeO.none _)
      | (with_reducible refine LeO.ite ?_ ?_)
      | (with_reducible refine LeO.bind ?_ (fun _ => ?_))
      | exact ih0 _ _ _ _ _ _
      | exact LeO.none _
      | refine LeO.ite ?_ ?_
      | refine LeO.bind ?_ (fun _ => ?_)
set_option maxHeartbeats 8000000 in
set_option maxRecDepth 100000 in
theorem chunk_Items.calls (k : Nat) (a0 : Int) (a1 : ByteArray) (r : List (S42)) (w : World) (h : chunk_Items.f k a0 a1 = some r) :
    Calls Try.prog 7 #[.int .u64 a0, .string a1] w fun e w' => ∃ v0_ : Value, e = .returned (v0_) ∧ Kd.R k42 42 w' w.heap.size (fun _ => True) v0_ r ∧ Below w.heap.size w w' := by
  have hu42 := Try.underlying42
  have HB := Aside0.mk (Below.refl w.heap.size w)
  have H : (if 0 ≤ (mn (a1.size : Int) 4096) then (if (mn (a1.size : Int) 4096) ≤ (a1.size : Int) then (chunk_Items.l0 k a0 (a1.extract 0 ((mn (a1.size : Int) 4096) : Int).toNat) (mx 1 (wrap64 (Int.tdiv (wrap64 ((wrap64 (((a1.extract 0 ((mn (a1.size : Int) 4096) : Int).toNat).size : Int) + 256)) - 1)) 256))) ([] : List (S42)) (mx 1 (wrap64 (Int.tdiv (wrap64 ((wrap64 (((a1.extract 0 ((mn (a1.size : Int) 4096) : Int).toNat).size : Int) + 256)) - 1)) 256))) 0) else (none)) else (none)) = some r := h
  clear h
  obtain ⟨ji3, hji3⟩ : ∃ j_ : Int, (mn (a1.size : Int) 4096) = j_ := ⟨_, rfl⟩
  replace H : (if 0 ≤ (ji3) then (if (ji3) ≤ (a1.size : Int) then (chunk_Items.l0 k a0 (a1.extract 0 ((ji3) : Int).toNat) (mx 1 (wrap64 (Int.tdiv (wrap64 ((wrap64 (((a1.extract 0 ((ji3) : Int).toNat).size : Int) + 256)) - 1)) 256))) ([] : List (S42)) (mx 1 (wrap64 (Int.tdiv (wrap64 ((wrap64 (((a1.extract 0 ((ji3) : Int).toNat).size : Int) + 256)) - 1)) 256))) 0) else (none)) else (none)) = some r := by first | (rw [hji3] at H; exact H) | (simp only [hji3] at H ⊢; exact H)
  (try (have hji3h : ji3 ≤ 4096 := by (rw [← hji3]; unfold mn; (repeat' split) <;> omega)))
  (try (have hji3g : ji3 ≤ 64 := by omega))
  (try (have hji3l : 0 ≤ ji3 := by (rw [← hji3]; unfold mn; (repeat' split) <;> omega)))
  (try (have hji3m : 0 ≤ ji3 := by omega))
  have hji3_ : (if 4096 < (a1.size : Int) then 4096 else (a1.size : Int)) = ji3 := hji3
  by_cases c4 : 0 ≤ (ji3)
  · rw [if_pos c4] at H
    have c4b0 := eq_true c4
    (try (have c4b0s := c4; simp only [ByteArray.size_append, ByteArray.size_extract, Nat.sub_zero, Int.natCast_add] at c4b0s))
    have c4b1 : decide (0 ≤ (ji3)) = true := decide_eq_true c4
    clear c4
    by_cases c5 : (ji3) ≤ (a1.size : Int)
    · rw [if_pos c5] at H
      have c5b0 := eq_true c5
      (try (have c5b0s := c5; simp only [ByteArray.size_append, ByteArray.size_extract, Nat.sub_zero, Int.natCast_add] at c5b0s))
      have c5b1 : decide ((ji3) ≤ (a1.size : Int)) = true := decide_eq_true c5
      clear c5
      obtain ⟨ji6, hji6⟩ : ∃ j_ : Int, (mx 1 (wrap64 (Int.tdiv (wrap64 ((wrap64 (((a1.extract 0 ((ji3) : Int).toNat).size : Int) + 256)) - 1)) 256))) = j_ := ⟨_, rfl⟩
      replace H : (chunk_Items.l0 k a0 (a1.extract 0 ((ji3) : Int).toNat) ji6 ([] : List (S42)) ji6 0) = some r := by first | (rw [hji6] at H; exact H) | (simp only [hji6] at H ⊢; exact H)
      have hji6_ : (if 1 < (max ji3 0 + 256 - 1) / 256 then (max ji3 0 + 256 - 1) / 256 else 1) = ji6 := by
        have hz_ : ((a1.extract 0 ((ji3) : Int).toNat).size : Int) = max ji3 0 := by simp only [ByteArray.size_extract]; omega
        have hw_ : ∀ x : Int, 0 ≤ x → x ≤ 1000000 → wrap64 x = x := fun x h1 h2 => by unfold wrap64; omega
        rw [← hji6, hz_]
        clear hji6
        rw [hw_ (max ji3 0 + 256) (by omega) (by omega), hw_ (max ji3 0 + 256 - 1) (by omega) (by omega), Int.tdiv_eq_ediv_of_nonneg (by omega), hw_ ((max ji3 0 + 256 - 1) / 256) (by omega) (by omega)]
        rfl
      have H' := Aside0.mk H
      clear H
      go_enter Try.func7, Try.ntmps7
      go_wp2
      go_loopg [6, 21] k (fun kq v6 v21 w' => ∃ (x6_1 : List (S42)) (x21_1 : Int), v21 = .int .i64 x21_1 ∧ Aside0 (chunk_Items.l0 kq a0 (a1.extract 0 ((ji3) : Int).toNat) ji6 x6_1 ji6 x21_1 = some r) ∧ Aside0 (kq ≤ k) ∧ Aside0 (Kd.R k42 42 w' w.heap.size (fun _ => True) v6 x6_1) ∧ Aside0 (Below w.heap.size w w'))
      case atStart => exact ⟨(([] : List (S42))), (0), (by first | rfl | (simp; done) | (simp [*]; done)), H', ⟨Nat.le_refl _⟩, ⟨by first | exact Kd.R_nil _ _ _ _ _ | exact Kd.N_nil _ _ _ _ _ | exact Kd.V_nil _ _ _ _ _ | exact Kd.Q_nil _ _ _ _ _ | exact Kd.S_nil _ _ _ _ _⟩, ⟨by repeat (first | (with_reducible first | exact HB.out | apply below_alloc | apply pw_below_drewN | apply below_drew1) | exact HB.out)⟩⟩
      case round =>
        clear H'
        try clear p2
        try clear c4
        try clear c4b0
        try clear c4b1
        try clear c5
        try clear c5b0
        try clear c5b1
        try clear p6
        obtain ⟨x6_1, x21_1, rfl, HA, HK1, HO_6, HB⟩ := hrel
        cases gk with
        | zero => exact absurd HA.out (by simp [chunk_Items.l0])
        | succ k1 =>
          have H := HA.out
          clear HA
          simp only [chunk_Items.l0] at H
          by_cases c7 : x21_1 < ji6
          · rw [if_pos c7] at H
            have c7b0 : decide (x21_1 < ji6) = true := decide_eq_true c7
            clear c7
            obtain ⟨ji8, hji8⟩ : ∃ j_ : Int, (mn ((a1.extract 0 ((ji3) : Int).toNat).size : Int) (wrap64 ((wrap64 (x21_1 + 1)) * 256))) = j_ := ⟨_, rfl⟩
            replace H : (if 0 ≤ (wrap64 (x21_1 * 256)) then (if (wrap64 (x21_1 * 256)) ≤ (ji8) then (if (ji8) ≤ ((a1.extract 0 ((ji3) : Int).toNat).size : Int) then (if x6_1.length < 879609302220 then (chunk_Items.l0 k1 a0 (a1.extract 0 ((ji3) : Int).toNat) ji6 (x6_1 ++ [(⟨4, (a1.extract 0 ((ji3) : Int).toNat).extract ((wrap64 (x21_1 * 256)) : Int).toNat ((ji8) : Int).toNat, 0, 0, false, false, (⟨(⟨0, (⟨0, 0⟩ : S31), 0⟩ : S33), OV.nil⟩ : S40), (⟨0, (⟨0, 0⟩ : S31), 0⟩ : S33), a0, x21_1, ji6⟩ : S42)]) ji6 (wrap64 (x21_1 + 1))) else (none)) else (none)) else (none)) else (none)) = some r := by first | (rw [hji8] at H; exact H) | (simp only [hji8] at H ⊢; exact H)
            have hji8_ : (if (wrap64 ((wrap64 (x21_1 + 1)) * 256)) < ((a1.extract 0 ((ji3) : Int).toNat).size : Int) then (wrap64 ((wrap64 (x21_1 + 1)) * 256)) else ((a1.extract 0 ((ji3) : Int).toNat).size : Int)) = ji8 := hji8
            (try (have hji8_s := hji8_; simp only [ByteArray.size_append, ByteArray.size_extract, Nat.sub_zero, Int.natCast_add] at hji8_s))
            obtain ⟨ji9, hji9⟩ : ∃ j_ : Int, (wrap64 (x21_1 * 256)) = j_ := ⟨_, rfl⟩
            replace H : (if 0 ≤ (ji9) then (if (ji9) ≤ (ji8) then (if (ji8) ≤ ((a1.extract 0 ((ji3) : Int).toNat).size : Int) then (if x6_1.length < 879609302220 then (chunk_Items.l0 k1 a0 (a1.extract 0 ((ji3) : Int).toNat) ji6 (x6_1 ++ [(⟨4, (a1.extract 0 ((ji3) : Int).toNat).extract ((ji9) : Int).toNat ((ji8) : Int).toNat, 0, 0, false, false, (⟨(⟨0, (⟨0, 0⟩ : S31), 0⟩ : S33), OV.nil⟩ : S40), (⟨0, (⟨0, 0⟩ : S31), 0⟩ : S33), a0, x21_1, ji6⟩ : S42)]) ji6 (wrap64 (x21_1 + 1))) else (none)) else (none)) else (none)) else (none)) = some r := by first | (rw [hji9] at H; exact H) | (simp only [hji9] at H ⊢; exact H)
            have hji9w : (IntKind.i64.wrap (x21_1 * 256)) = ji9 := (i64_w _).trans hji9
            by_cases c10 : 0 ≤ (ji9)
            · rw [if_pos c10] at H
              have c10b0 := eq_true c10
              (try (have c10b0s := c10; simp only [ByteArray.size_append, ByteArray.size_extract, Nat.sub_zero, Int.natCast_add] at c10b0s))
              have c10b1 : decide (0 ≤ (ji9)) = true := decide_eq_true c10
              clear c10
              by_cases c11 : (ji9) ≤ (ji8)
              · rw [if_pos c11] at H
                have c11b0 := eq_true c11
                (try (have c11b0s := c11; simp only [ByteArray.size_append, ByteArray.size_extract, Nat.sub_zero, Int.natCast_add] at c11b0s))
                have c11b1 : decide ((ji9) ≤ (ji8)) = true := decide_eq_true c11
                clear c11
                by_cases c12 : (ji8) ≤ ((a1.extract 0 ((ji3) : Int).toNat).size : Int)
                · rw [if_pos c12] at H
                  have c12b0 := eq_true c12
                  (try (have c12b0s := c12; simp only [ByteArray.size_append, ByteArray.size_extract, Nat.sub_zero, Int.natCast_add] at c12b0s))
                  have c12b1 : decide ((ji8) ≤ ((a1.extract 0 ((ji3) : Int).toNat).size : Int)) = true := decide_eq_true c12
                  (try (have c12b1s := c12b1; simp only [ByteArray.size_append, ByteArray.size_extract, Nat.sub_zero, Int.natCast_add] at c12b1s))
                  clear c12
                  by_cases c13 : x6_1.length < 879609302220
                  · rw [if_pos c13] at H
                    have LMc13 := Aside0.mk c13
                    clear c13
                    obtain ⟨y101, hy101⟩ : ∃ y_ : List (S42), y_ = (x6_1 ++ [(⟨4, (a1.extract 0 ((ji3) : Int).toNat).extract ((ji9) : Int).toNat ((ji8) : Int).toNat, 0, 0, false, false, (⟨(⟨0, (⟨0, 0⟩ : S31), 0⟩ : S33), OV.nil⟩ : S40), (⟨0, (⟨0, 0⟩ : S31), 0⟩ : S33), a0, x21_1, ji6⟩ : S42)]) := ⟨_, rfl⟩
                    replace H : (chunk_Items.l0 k1 a0 (a1.extract 0 ((ji3) : Int).toNat) ji6 y101 ji6 (wrap64 (x21_1 + 1))) = some r := by first | (rw [hy101]; with_reducible exact H) | (have H2_ := (Option.bind_some _ _).symm.trans H; rw [hy101]; with_reducible exact H2_) | (have H2_ := (Option.bind_some _ _).symm.trans H; with_reducible exact H2_) | with_reducible exact H | (rw [hy101]; exact H) | exact H
                    have Ny101 := Aside0.mk hy101
                    clear hy101
                    have H' := Aside0.mk H
                    clear H
                    go_wp2_with (first | ((with_reducible refine gate_builtin (b := .append) (xs := #[.tmp 34, .tmp 40]) rfl ?_); at_builtin; refine Kd.R_append k42 (w0 := w) w.heap.size rfl (.tmp 34) (.tmp 40) 24 42 (.agg #[(.int .i64 0), (.string ⟨#[]⟩), (.int .u32 0), (.int .u64 0), (.bool false), (.bool false), (.int .u64 0), (.int .u64 0), (.int .i64 0), (.int .u64 0), (.slice none 0 0), (.int .u64 0), (.int .u64 0), (.int .i64 0), (.int .u64 0), (.int .u64 0), (.int .i64 0), (.int .i64 0)]) 160 rfl Try.underlying24 info42 rfl (by decide) (by omega) u6 x6_1 (⟨4, (a1.extract 0 ((ji3) : Int).toNat).extract ((ji9) : Int).toNat ((ji8) : Int).toNat, 0, 0, false, false, (⟨(⟨0, (⟨0, 0⟩ : S31), 0⟩ : S33), OV.nil⟩ : S40), (⟨0, (⟨0, 0⟩ : S31), 0⟩ : S33), a0, x21_1, ji6⟩ : S42) [.int .i64 4, .string ((a1.extract 0 ((ji3) : Int).toNat).extract ((ji9) : Int).toNat ((ji8) : Int).toNat), .int .u32 0, .int .u64 0, .bool false, .bool false, .int .u64 0, .int .u64 0, .int .i64 0, .int .u64 0, .slice OV.nil.A OV.nil.n OV.nil.c, .int .u64 0, .int .u64 0, .int .i64 0, .int .u64 0, .int .u64 a0, .int .i64 x21_1, .int .i64 ji6] (fun _ => True) (fun _ => False) rfl rfl ?aP (fun _ hk => hk.elim) ?aF ?aO ?aB ?aS ?aL ?_; (case aP => exact k42_mkM _ _ _ (⟨4, (a1.extract 0 ((ji3) : Int).toNat).extract ((ji9) : Int).toNat ((ji8) : Int).toNat, 0, 0, false, false, (⟨(⟨0, (⟨0, 0⟩ : S31), 0⟩ : S33), OV.nil⟩ : S40), (⟨0, (⟨0, 0⟩ : S31), 0⟩ : S33), a0, x21_1, ji6⟩ : S42)); (case aB => exact (by repeat (first | (with_reducible first | exact HB.out | apply below_alloc | apply pw_below_drewN | apply below_drew1) | exact HB.out))); (case aF => exact (fun _ _ => trivial)); (case aO => exact (by (with_reducible repeat (first | apply Kd.R_alloc | apply Kd.R_drewN | apply Kd.R_drew)); exact HO_6.out)); (case aS => exact (below_size (by repeat (first | (with_reducible first | exact HB.out | apply below_alloc | apply pw_below_drewN | apply below_drew1) | exact HB.out)))); (case aL => have := LMc13.out; omega); intro v102 w14 ho hb hg hat; rw [← Ny101.out] at ho; have n0_ := Aside0.mk (hb); have n1_ := Aside0.mk (ho); clear HB; clear HO_6; have HB := n0_; have HO103 := n1_; clear n0_ n1_; clear ho hb hg hat))
                    go_roundg k1
                    case measure => have := HK1.out; omega
                    case rel => exact ⟨(y101), (wrap64 (x21_1 + 1)), (by first | rfl | (simp; done) | (simp [*]; done)), H', ⟨by have := HK1.out; omega⟩, ⟨by (with_reducible repeat (first | apply Kd.R_alloc | apply Kd.R_drewN | apply Kd.R_drew)); exact HO103.out⟩, ⟨by repeat (first | (with_reducible first | exact HB.out | apply below_alloc | apply pw_below_drewN | apply below_drew1) | exact HB.out)⟩⟩
                  · rw [if_neg c13] at H
                    exact absurd H (by simp)
                · rw [if_neg c12] at H
                  exact absurd H (by simp)
              · rw [if_neg c11] at H
                exact absurd H (by simp)
            · rw [if_neg c10] at H
              exact absurd H (by simp)
          · rw [if_neg c7] at H
            have c7b0 : decide (x21_1 < ji6) = false := decide_eq_false c7
            clear c7
            obtain rfl := Option.some.inj H
            go_wp2
            go_ret
            exact ⟨_, by first | rfl | (simp [errW_none, errW_some] <;> rfl) | (simp only [← hji3, ← hji6]; first | rfl | (simp [errW_none, errW_some] <;> rfl)) | (simp [*, errW_none, errW_some] <;> rfl), by (with_reducible repeat (first | apply Kd.R_alloc | apply Kd.R_drewN | apply Kd.R_drew)); exact HO_6.out, by repeat (first | (with_reducible first | exact HB.out | apply below_alloc | apply pw_below_drewN | apply below_drew1) | exact HB.out)⟩
    · rw [if_neg c5] at H
      exact absurd H (by simp)
  · rw [if_neg c4] at H
    exact absurd H (by simp)

/-! ### consortlaw23_awake: function 6 -/
def consortlaw23_awake.j0 : Nat → List (S42) → Bool → Int → Int → (List (Int × ByteArray)) → Option (Bool)
  | 0, _, _, _, _, _ => none
  | k + 1, x1, x30, x111000, x111001, x111002 => if x30 = true then (some false) else ((chunk_Whole.f x111000 x111001 x111002).bind fun bt113 => (if 0 < (x1.length : Int) then ((chunk_Take.f bt113.2.2.1 bt113.2.2.2.1 bt113.2.2.2.2 ((rd_T42 x1 0).f0) ((rd_T42 x1 0).f1) ((rd_T42 x1 0).f2) ((rd_T42 x1 0).f3) ((rd_T42 x1 0).f4) ((rd_T42 x1 0).f5) ((rd_T42 x1 0).f6.f0.f0) ((rd_T42 x1 0).f6.f0.f1.f0) ((rd_T42 x1 0).f6.f0.f1.f1) ((rd_T42 x1 0).f6.f0.f2) ((rd_T42 x1 0).f6.f1) ((rd_T42 x1 0).f7.f0) ((rd_T42 x1 0).f7.f1.f0) ((rd_T42 x1 0).f7.f1.f1) ((rd_T42 x1 0).f7.f2) ((rd_T42 x1 0).f8) ((rd_T42 x1 0).f9) ((rd_T42 x1 0).f10)).bind fun bt119 => ((chunk_Whole.f bt119.2.1 bt119.2.2.1 bt119.2.2.2).bind fun bt123 => (if bt113.2.1 = true then (some false) else (if bt119.1 = true then (if bt123.1.toList = ([97, 98] : List UInt8) then (if bt123.2.1 = true then ((chunk_Take.f bt123.2.2.1 bt123.2.2.2.1 bt123.2.2.2.2 ((rd_T42 x1 0).f0) ((rd_T42 x1 0).f1) ((rd_T42 x1 0).f2) ((rd_T42 x1 0).f3) ((rd_T42 x1 0).f4) ((rd_T42 x1 0).f5) ((rd_T42 x1 0).f6.f0.f0) ((rd_T42 x1 0).f6.f0.f1.f0) ((rd_T42 x1 0).f6.f0.f1.f1) ((rd_T42 x1 0).f6.f0.f2) ((rd_T42 x1 0).f6.f1) ((rd_T42 x1 0).f7.f0) ((rd_T42 x1 0).f7.f1.f0) ((rd_T42 x1 0).f7.f1.f1) ((rd_T42 x1 0).f7.f2) ((rd_T42 x1 0).f8) ((rd_T42 x1 0).f9) ((rd_T42 x1 0).f10)).bind fun bt129 => (if bt129.1 = true then (some false) else ((chunk_Items.f k 1 (⟨#[]⟩ : ByteArray)).bind fun t133 => (some ((t133.length : Int) == 1))))) else (some false)) else (some false)) else (some false))))) else (none)))
def consortlaw23_awake.f (k : Nat)  : Option (Bool) := (chunk_Items.f k 7 (⟨#[97, 98]⟩ : ByteArray)).bind fun t104 => ((chunk_New.f 7).bind fun bt107 => (if (t104.length : Int) = 1 then (if 0 < (t104.length : Int) then (if ((rd_T42 t104 0).f0) = 4 then (if ((rd_T42 t104 0).f10) = 1 then (consortlaw23_awake.j0 k t104 false bt107.1 bt107.2.1 bt107.2.2) else (consortlaw23_awake.j0 k t104 true bt107.1 bt107.2.1 bt107.2.2)) else (consortlaw23_awake.j0 k t104 true bt107.1 bt107.2.1 bt107.2.2)) else (none)) else (consortlaw23_awake.j0 k t104 true bt107.1 bt107.2.1 bt107.2.2)))
theorem consortlaw23_awake.mono_l : ∀ k, (∀ y0 y1 y2 y3 y4, LeO (consortlaw23_awake.j0 k y0 y1 y2 y3 y4) (consortlaw23_awake.j0 (k + 1) y0 y1 y2 y3 y4))
  | 0 => fun _ _ _ _ _ r h => by simp [consortlaw23_awake.j0] at h
  | k + 1 => by
    have ih0 := consortlaw23_awake.mono_l k
    · intro y0 y1 y2 y3 y4
      unfold consortlaw23_awake.j0
      repeat' first
      | (with_reducible exact ih0 _ _ _ _ _)
      | (with_reducible exact chunk_Items.mono _ _ _)
      | (with_reducible exact LeO.refl _)
      | (with_reducible exact LeO.none _)
      | (with_reducible refine LeO.ite ?_ ?_)
      | (with_reducible refine LeO.bind ?_ (fun _ => ?_))
      | exact ih0 _ _ _ _ _
      | exact chunk_Items.mono _ _ _
      | exact LeO.none _
      | refine LeO.ite ?_ ?_
      | refine LeO.bind ?_ (fun _ => ?_)
theorem consortlaw23_awake.mono : ∀ k, LeO (consortlaw23_awake.f k ) (consortlaw23_awake.f (k + 1) ) := by
  intro  k
  have ih0 := consortlaw23_awake.mono_l k
  unfold consortlaw23_awake.f
  repeat' first
      | (with_reducible exact ih0 _ _ _ _ _)
      | (with_reducible exact chunk_Items.mono _ _ _)
      | (with_reducible exact LeO.refl _)
      | (with_reducible exact LeO.none _)
      | (with_reducible refine LeO.ite ?_ ?_)
      | (with_reducible refine LeO.bind ?_ (fun _ => ?_))
      | exact ih0 _ _ _ _ _
      | exact chunk_Items.mono _ _ _
      | exact LeO.none _
      | refine LeO.ite ?_ ?_
      | refine LeO.bind ?_ (fun _ => ?_)
set_option maxHeartbeats 8000000 in
set_option maxRecDepth 100000 in
theorem consortlaw23_awake.calls (k : Nat)  (r : Bool) (w : World) (h : consortlaw23_awake.f k  = some r) :
    Calls Try.prog 6 #[] w fun e w' => e = .returned (.bool r) ∧ Below w.heap.size w w' := by
  have hu42 := Try.underlying42
  have HB := Aside0.mk (Below.refl w.heap.size w)
  have H : ((chunk_Items.f k 7 (⟨#[97, 98]⟩ : ByteArray)).bind fun t104 => ((chunk_New.f 7).bind fun bt107 => (if (t104.length : Int) = 1 then (if 0 < (t104.length : Int) then (if ((rd_T42 t104 0).f0) = 4 then (if ((rd_T42 t104 0).f10) = 1 then (consortlaw23_awake.j0 k t104 false bt107.1 bt107.2.1 bt107.2.2) else (consortlaw23_awake.j0 k t104 true bt107.1 bt107.2.1 bt107.2.2)) else (consortlaw23_awake.j0 k t104 true bt107.1 bt107.2.1 bt107.2.2)) else (none)) else (consortlaw23_awake.j0 k t104 true bt107.1 bt107.2.1 bt107.2.2)))) = some r := h
  clear h
  replace H := Option.bind_eq_some_iff.mp H
  obtain ⟨t104, A10, H⟩ := H
  replace H : ((chunk_New.f 7).bind fun bt107 => (if (t104.length : Int) = 1 then (if 0 < (t104.length : Int) then (if ((rd_T42 t104 0).f0) = 4 then (if ((rd_T42 t104 0).f10) = 1 then (consortlaw23_awake.j0 k t104 false bt107.1 bt107.2.1 bt107.2.2) else (consortlaw23_awake.j0 k t104 true bt107.1 bt107.2.1 bt107.2.2)) else (consortlaw23_awake.j0 k t104 true bt107.1 bt107.2.1 bt107.2.2)) else (none)) else (consortlaw23_awake.j0 k t104 true bt107.1 bt107.2.1 bt107.2.2))) = some r := H
  have A1 := Aside0.mk A10
  clear A10
  replace H := Option.bind_eq_some_iff.mp H
  obtain ⟨⟨t107, t108, t109⟩, A20, H⟩ := H
  replace H : (if (t104.length : Int) = 1 then (if 0 < (t104.length : Int) then (if ((rd_T42 t104 0).f0) = 4 then (if ((rd_T42 t104 0).f10) = 1 then (consortlaw23_awake.j0 k t104 false t107 t108 t109) else (consortlaw23_awake.j0 k t104 true t107 t108 t109)) else (consortlaw23_awake.j0 k t104 true t107 t108 t109)) else (none)) else (consortlaw23_awake.j0 k t104 true t107 t108 t109)) = some r := H
  have A2 := Aside0.mk A20
  clear A20
  have HC3 := Aside0.mk H
  clear H
  go_enter Try.func6, Try.ntmps6
  go_upto_region 3 with (first | ((with_reducible refine gate_callee (f := 7) rfl ?_); refine goesL_ (some 8) rfl rfl Try.func7 (by kernel_rfl) rfl #[.int .u64 7, .string (⟨#[97, 98]⟩ : ByteArray)] rfl (by (try simp only [List.map_toArray, List.map_cons, List.map_nil]); first | done | rfl | (simp only [List.length_drop, List.length_take]; rfl)) ?_; (with_reducible refine (chunk_Items.calls k 7 (⟨#[97, 98]⟩ : ByteArray) t104 _ A1.out).mono ?_); rintro e w4 ⟨v105, rfl, ho0, hb⟩; refine ⟨_, rfl, ?_⟩; have n0_ := Aside0.mk (Kd.R_lower ho0 (below_size (by repeat (first | (with_reducible first | exact HB.out | apply below_alloc | apply pw_below_drewN | apply below_drew1) | exact HB.out)))); have n1_ := Aside0.mk (below_step (by repeat (first | (with_reducible first | exact HB.out | apply below_alloc | apply pw_below_drewN | apply below_drew1) | exact HB.out)) hb); clear HB; have HO106 := n0_; have HB := n1_; clear n0_ n1_; (try clear hb); (try clear hb2); (try clear hk); (try clear hi); (try clear ho0)) | ((with_reducible refine gate_callee (f := 11) rfl ?_); refine goesL_ (some 9) rfl rfl Try.func11 (by kernel_rfl) rfl #[.int .u64 7] rfl (by (try simp only [List.map_toArray, List.map_cons, List.map_nil]); first | done | rfl | (simp only [List.length_drop, List.length_take]; rfl)) ?_; (with_reducible refine (chunk_New.calls 7 t107 t108 t109 w _ ?side1 A2.out).mono ?_); (case side1 => repeat (first | (with_reducible first | exact HB.out | apply below_alloc | apply pw_below_drewN | apply below_drew1) | exact HB.out)); rintro e w5 ⟨g110, rfl, hi, hb, hb2⟩; refine ⟨_, rfl, ?_⟩; have n0_ := Aside0.mk (Kd.R_below (by (with_reducible repeat (first | apply Kd.R_alloc | apply Kd.R_drewN | apply Kd.R_drew)); exact HO106.out) hb2); have n1_ := Aside0.mk (hb); have n2_ := Aside0.mk (hi); clear HO106; clear HB; have HO106 := n0_; have HB := n1_; have HI110 := n2_; clear n0_ n1_ n2_; (try clear hb); (try clear hb2); (try clear hk); (try clear hi)))
  (try simp only [Act.put, List.setIfInBounds_toArray, List.set_cons_zero, List.set_cons_succ])
  go_cut [30] (fun v30 wc => ∃ (kq : Nat) (x30_2 : Bool), v30 = .bool x30_2 ∧ Aside0 (consortlaw23_awake.j0 kq t104 x30_2 t107 t108 t109 = some r) ∧ Aside0 (kq ≤ k) ∧ Aside0 (Kd.R k42 42 wc w.heap.size (fun _ => True) v105 t104) ∧ Aside0 (IsS65 w wc g110 t107 t108 t109) ∧ Aside0 (Below w.heap.size w wc))
  case first =>
    have H := HC3.out
    clear HC3
    by_cases c6 : (t104.length : Int) = 1
    · rw [if_pos c6] at H
      have c6b0 : ((t104.length : Int) == 1) = true := beq_iff_eq.mpr c6
      have c6b1 : ((t104.length : Int) != 1) = false := bne_eq_false_iff_eq.mpr c6
      clear c6
      (first | rw [c6b0] | (simp only [i64_w, i32_w]; rw [c6b0]) | skip)
      by_cases c7 : 0 < (t104.length : Int)
      · rw [if_pos c7] at H
        have c7b0 : decide (0 < (t104.length : Int)) = true := decide_eq_true c7
        have c7b1 : decide (0 < t104.length) = true := decide_eq_true (by omega)
        clear c7
        by_cases c8 : ((rd_T42 t104 0).f0) = 4
        · rw [if_pos c8] at H
          have c8b0 : (((rd_T42 t104 0).f0) == 4) = true := beq_iff_eq.mpr c8
          have c8b1 : (((rd_T42 t104 0).f0) != 4) = false := bne_eq_false_iff_eq.mpr c8
          clear c8
          by_cases c9 : ((rd_T42 t104 0).f10) = 1
          · rw [if_pos c9] at H
            have c9b0 : (((rd_T42 t104 0).f10) == 1) = true := beq_iff_eq.mpr c9
            have c9b1 : (((rd_T42 t104 0).f10) != 1) = false := bne_eq_false_iff_eq.mpr c9
            clear c9
            have H' := Aside0.mk H
            clear H
            obtain ⟨Ao10, co10, eo10⟩ := Kd.R_slice HO106.out
            subst eo10
            have p111 : 0 ≤ (0 : Int) := (by omega)
            have q111 : 0 < (t104.length : Int) := of_decide_eq_true (by first | (with_reducible assumption) | assumption)
            obtain ⟨ad111, e111, hx111_0, hx111_1, hx111_2, hx111_3, hx111_4, hx111_5, hx111_6, hx111_7, hx111_8, hx111_9, hx111_10, hx111_11, hx111_12, hx111_13, hx111_14, hx111_15, hx111_16, hx111_17⟩ := at_T42 (Kd.R_reads' HO106.out).2.2 0 p111 q111
            cases e111
            have qi111 : (0 < t104.length) = True := eq_true (by omega)
            (try rw [show ((0 : Int)).toNat = 0 from rfl] at hx111_0)
            (try rw [show 0 * 18 = 0 from rfl] at hx111_0)
            (try rw [Addr.add_zero'] at hx111_0)
            (try rw [show ((0 : Int)).toNat = 0 from rfl] at hx111_1)
            (try rw [show 0 * 18 = 0 from rfl] at hx111_1)
            (try rw [Addr.add_zero'] at hx111_1)
            (try rw [show ((0 : Int)).toNat = 0 from rfl] at hx111_2)
            (try rw [show 0 * 18 = 0 from rfl] at hx111_2)
            (try rw [Addr.add_zero'] at hx111_2)
            (try rw [show ((0 : Int)).toNat = 0 from rfl] at hx111_3)
            (try rw [show 0 * 18 = 0 from rfl] at hx111_3)
            (try rw [Addr.add_zero'] at hx111_3)
            (try rw [show ((0 : Int)).toNat = 0 from rfl] at hx111_4)
            (try rw [show 0 * 18 = 0 from rfl] at hx111_4)
            (try rw [Addr.add_zero'] at hx111_4)
            (try rw [show ((0 : Int)).toNat = 0 from rfl] at hx111_5)
            (try rw [show 0 * 18 = 0 from rfl] at hx111_5)
            (try rw [Addr.add_zero'] at hx111_5)
            (try rw [show ((0 : Int)).toNat = 0 from rfl] at hx111_6)
            (try rw [show 0 * 18 = 0 from rfl] at hx111_6)
            (try rw [Addr.add_zero'] at hx111_6)
            (try rw [show ((0 : Int)).toNat = 0 from rfl] at hx111_7)
            (try rw [show 0 * 18 = 0 from rfl] at hx111_7)
            (try rw [Addr.add_zero'] at hx111_7)
            (try rw [show ((0 : Int)).toNat = 0 from rfl] at hx111_8)
            (try rw [show 0 * 18 = 0 from rfl] at hx111_8)
            (try rw [Addr.add_zero'] at hx111_8)
            (try rw [show ((0 : Int)).toNat = 0 from rfl] at hx111_9)
            (try rw [show 0 * 18 = 0 from rfl] at hx111_9)
            (try rw [Addr.add_zero'] at hx111_9)
            (try rw [show ((0 : Int)).toNat = 0 from rfl] at hx111_10)
            (try rw [show 0 * 18 = 0 from rfl] at hx111_10)
            (try rw [Addr.add_zero'] at hx111_10)
            (try rw [show ((0 : Int)).toNat = 0 from rfl] at hx111_11)
            (try rw [show 0 * 18 = 0 from rfl] at hx111_11)
            (try rw [Addr.add_zero'] at hx111_11)
            (try rw [show ((0 : Int)).toNat = 0 from rfl] at hx111_12)
            (try rw [show 0 * 18 = 0 from rfl] at hx111_12)
            (try rw [Addr.add_zero'] at hx111_12)
            (try rw [show ((0 : Int)).toNat = 0 from rfl] at hx111_13)
            (try rw [show 0 * 18 = 0 from rfl] at hx111_13)
            (try rw [Addr.add_zero'] at hx111_13)
            (try rw [show ((0 : Int)).toNat = 0 from rfl] at hx111_14)
            (try rw [show 0 * 18 = 0 from rfl] at hx111_14)
            (try rw [Addr.add_zero'] at hx111_14)
            (try rw [show ((0 : Int)).toNat = 0 from rfl] at hx111_15)
            (try rw [show 0 * 18 = 0 from rfl] at hx111_15)
            (try rw [Addr.add_zero'] at hx111_15)
            (try rw [show ((0 : Int)).toNat = 0 from rfl] at hx111_16)
            (try rw [show 0 * 18 = 0 from rfl] at hx111_16)
            (try rw [Addr.add_zero'] at hx111_16)
            (try rw [show ((0 : Int)).toNat = 0 from rfl] at hx111_17)
            (try rw [show 0 * 18 = 0 from rfl] at hx111_17)
            (try rw [Addr.add_zero'] at hx111_17)
            replace p111 := eq_true p111
            replace q111 := eq_true q111
            have p112 : 0 ≤ (0 : Int) := (by omega)
            have q112 : 0 < (t104.length : Int) := of_decide_eq_true (by first | (with_reducible assumption) | assumption)
            obtain ⟨ad112, e112, hx112_0, hx112_1, hx112_2, hx112_3, hx112_4, hx112_5, hx112_6, hx112_7, hx112_8, hx112_9, hx112_10, hx112_11, hx112_12, hx112_13, hx112_14, hx112_15, hx112_16, hx112_17⟩ := at_T42 (Kd.R_reads' HO106.out).2.2 0 p112 q112
            obtain rfl : ad111 = ad112 := (by injection e112)
            have qi112 : (0 < t104.length) = True := eq_true (by omega)
            (try rw [show ((0 : Int)).toNat = 0 from rfl] at hx112_0)
            (try rw [show 0 * 18 = 0 from rfl] at hx112_0)
            (try rw [Addr.add_zero'] at hx112_0)
            (try rw [show ((0 : Int)).toNat = 0 from rfl] at hx112_1)
            (try rw [show 0 * 18 = 0 from rfl] at hx112_1)
            (try rw [Addr.add_zero'] at hx112_1)
            (try rw [show ((0 : Int)).toNat = 0 from rfl] at hx112_2)
            (try rw [show 0 * 18 = 0 from rfl] at hx112_2)
            (try rw [Addr.add_zero'] at hx112_2)
            (try rw [show ((0 : Int)).toNat = 0 from rfl] at hx112_3)
            (try rw [show 0 * 18 = 0 from rfl] at hx112_3)
            (try rw [Addr.add_zero'] at hx112_3)
            (try rw [show ((0 : Int)).toNat = 0 from rfl] at hx112_4)
            (try rw [show 0 * 18 = 0 from rfl] at hx112_4)
            (try rw [Addr.add_zero'] at hx112_4)
            (try rw [show ((0 : Int)).toNat = 0 from rfl] at hx112_5)
            (try rw [show 0 * 18 = 0 from rfl] at hx112_5)
            (try rw [Addr.add_zero'] at hx112_5)
            (try rw [show ((0 : Int)).toNat = 0 from rfl] at hx112_6)
            (try rw [show 0 * 18 = 0 from rfl] at hx112_6)
            (try rw [Addr.add_zero'] at hx112_6)
            (try rw [show ((0 : Int)).toNat = 0 from rfl] at hx112_7)
            (try rw [show 0 * 18 = 0 from rfl] at hx112_7)
            (try rw [Addr.add_zero'] at hx112_7)
            (try rw [show ((0 : Int)).toNat = 0 from rfl] at hx112_8)
            (try rw [show 0 * 18 = 0 from rfl] at hx112_8)
            (try rw [Addr.add_zero'] at hx112_8)
            (try rw [show ((0 : Int)).toNat = 0 from rfl] at hx112_9)
            (try rw [show 0 * 18 = 0 from rfl] at hx112_9)
            (try rw [Addr.add_zero'] at hx112_9)
            (try rw [show ((0 : Int)).toNat = 0 from rfl] at hx112_10)
            (try rw [show 0 * 18 = 0 from rfl] at hx112_10)
            (try rw [Addr.add_zero'] at hx112_10)
            (try rw [show ((0 : Int)).toNat = 0 from rfl] at hx112_11)
            (try rw [show 0 * 18 = 0 from rfl] at hx112_11)
            (try rw [Addr.add_zero'] at hx112_11)
            (try rw [show ((0 : Int)).toNat = 0 from rfl] at hx112_12)
            (try rw [show 0 * 18 = 0 from rfl] at hx112_12)
            (try rw [Addr.add_zero'] at hx112_12)
            (try rw [show ((0 : Int)).toNat = 0 from rfl] at hx112_13)
            (try rw [show 0 * 18 = 0 from rfl] at hx112_13)
            (try rw [Addr.add_zero'] at hx112_13)
            (try rw [show ((0 : Int)).toNat = 0 from rfl] at hx112_14)
            (try rw [show 0 * 18 = 0 from rfl] at hx112_14)
            (try rw [Addr.add_zero'] at hx112_14)
            (try rw [show ((0 : Int)).toNat = 0 from rfl] at hx112_15)
            (try rw [show 0 * 18 = 0 from rfl] at hx112_15)
            (try rw [Addr.add_zero'] at hx112_15)
            (try rw [show ((0 : Int)).toNat = 0 from rfl] at hx112_16)
            (try rw [show 0 * 18 = 0 from rfl] at hx112_16)
            (try rw [Addr.add_zero'] at hx112_16)
            (try rw [show ((0 : Int)).toNat = 0 from rfl] at hx112_17)
            (try rw [show 0 * 18 = 0 from rfl] at hx112_17)
            (try rw [Addr.add_zero'] at hx112_17)
            replace p112 := eq_true p112
            replace q112 := eq_true q112
            go_wp2
            go_meet
            case rel => exact ⟨_, (false), (by first | rfl | (simp; done) | (simp [*]; done)), H', ⟨by first | omega | exact Nat.le_refl _⟩, ⟨by (with_reducible repeat (first | apply Kd.R_alloc | apply Kd.R_drewN | apply Kd.R_drew)); exact HO106.out⟩, ⟨by repeat (first | (with_reducible first | exact HI110.out | apply IsS65.alloc | apply IsS65.drewN | apply IsS65.drew | apply IsS65.set_0 | apply IsS65.set_1 | apply IsS65.set_2) | exact HI110.out)⟩, ⟨by repeat (first | (with_reducible first | exact HB.out | apply below_alloc | apply pw_below_drewN | apply below_drew1 | refine below_set ?_ (IsS65.ge HI110.out)) | exact HB.out)⟩⟩
          · rw [if_neg c9] at H
            have c9b0 : (((rd_T42 t104 0).f10) == 1) = false := beq_eq_false_iff_ne.mpr c9
            have c9b1 : (((rd_T42 t104 0).f10) != 1) = true := bne_iff_ne.mpr c9
            have H' := Aside0.mk H
            clear H
            obtain ⟨Ao11, co11, eo11⟩ := Kd.R_slice HO106.out
            subst eo11
            have p111 : 0 ≤ (0 : Int) := (by omega)
            have q111 : 0 < (t104.length : Int) := of_decide_eq_true (by first | (with_reducible assumption) | assumption)
            obtain ⟨ad111, e111, hx111_0, hx111_1, hx111_2, hx111_3, hx111_4, hx111_5, hx111_6, hx111_7, hx111_8, hx111_9, hx111_10, hx111_11, hx111_12, hx111_13, hx111_14, hx111_15, hx111_16, hx111_17⟩ := at_T42 (Kd.R_reads' HO106.out).2.2 0 p111 q111
            cases e111
            have qi111 : (0 < t104.length) = True := eq_true (by omega)
            (try rw [show ((0 : Int)).toNat = 0 from rfl] at hx111_0)
            (try rw [show 0 * 18 = 0 from rfl] at hx111_0)
            (try rw [Addr.add_zero'] at hx111_0)
            (try rw [show ((0 : Int)).toNat = 0 from rfl] at hx111_1)
            (try rw [show 0 * 18 = 0 from rfl] at hx111_1)
            (try rw [Addr.add_zero'] at hx111_1)
            (try rw [show ((0 : Int)).toNat = 0 from rfl] at hx111_2)
            (try rw [show 0 * 18 = 0 from rfl] at hx111_2)
            (try rw [Addr.add_zero'] at hx111_2)
            (try rw [show ((0 : Int)).toNat = 0 from rfl] at hx111_3)
            (try rw [show 0 * 18 = 0 from rfl] at hx111_3)
            (try rw [Addr.add_zero'] at hx111_3)
            (try rw [show ((0 : Int)).toNat = 0 from rfl] at hx111_4)
            (try rw [show 0 * 18 = 0 from rfl] at hx111_4)
            (try rw [Addr.add_zero'] at hx111_4)
            (try rw [show ((0 : Int)).toNat = 0 from rfl] at hx111_5)
            (try rw [show 0 * 18 = 0 from rfl] at hx111_5)
            (try rw [Addr.add_zero'] at hx111_5)
            (try rw [show ((0 : Int)).toNat = 0 from rfl] at hx111_6)
            (try rw [show 0 * 18 = 0 from rfl] at hx111_6)
            (try rw [Addr.add_zero'] at hx111_6)
            (try rw [show ((0 : Int)).toNat = 0 from rfl] at hx111_7)
            (try rw [show 0 * 18 = 0 from rfl] at hx111_7)
            (try rw [Addr.add_zero'] at hx111_7)
            (try rw [show ((0 : Int)).toNat = 0 from rfl] at hx111_8)
            (try rw [show 0 * 18 = 0 from rfl] at hx111_8)
            (try rw [Addr.add_zero'] at hx111_8)
            (try rw [show ((0 : Int)).toNat = 0 from rfl] at hx111_9)
            (try rw [show 0 * 18 = 0 from rfl] at hx111_9)
            (try rw [Addr.add_zero'] at hx111_9)
            (try rw [show ((0 : Int)).toNat = 0 from rfl] at hx111_10)
            (try rw [show 0 * 18 = 0 from rfl] at hx111_10)
            (try rw [Addr.add_zero'] at hx111_10)
            (try rw [show ((0 : Int)).toNat = 0 from rfl] at hx111_11)
            (try rw [show 0 * 18 = 0 from rfl] at hx111_11)
            (try rw [Addr.add_zero'] at hx111_11)
            (try rw [show ((0 : Int)).toNat = 0 from rfl] at hx111_12)
            (try rw [show 0 * 18 = 0 from rfl] at hx111_12)
            (try rw [Addr.add_zero'] at hx111_12)
            (try rw [show ((0 : Int)).toNat = 0 from rfl] at hx111_13)
            (try rw [show 0 * 18 = 0 from rfl] at hx111_13)
            (try rw [Addr.add_zero'] at hx111_13)
            (try rw [show ((0 : Int)).toNat = 0 from rfl] at hx111_14)
            (try rw [show 0 * 18 = 0 from rfl] at hx111_14)
            (try rw [Addr.add_zero'] at hx111_14)
            (try rw [show ((0 : Int)).toNat = 0 from rfl] at hx111_15)
            (try rw [show 0 * 18 = 0 from rfl] at hx111_15)
            (try rw [Addr.add_zero'] at hx111_15)
            (try rw [show ((0 : Int)).toNat = 0 from rfl] at hx111_16)
            (try rw [show 0 * 18 = 0 from rfl] at hx111_16)
            (try rw [Addr.add_zero'] at hx111_16)
            (try rw [show ((0 : Int)).toNat = 0 from rfl] at hx111_17)
            (try rw [show 0 * 18 = 0 from rfl] at hx111_17)
            (try rw [Addr.add_zero'] at hx111_17)
            replace p111 := eq_true p111
            replace q111 := eq_true q111
            have p112 : 0 ≤ (0 : Int) := (by omega)
            have q112 : 0 < (t104.length : Int) := of_decide_eq_true (by first | (with_reducible assumption) | assumption)
            obtain ⟨ad112, e112, hx112_0, hx112_1, hx112_2, hx112_3, hx112_4, hx112_5, hx112_6, hx112_7, hx112_8, hx112_9, hx112_10, hx112_11, hx112_12, hx112_13, hx112_14, hx112_15, hx112_16, hx112_17⟩ := at_T42 (Kd.R_reads' HO106.out).2.2 0 p112 q112
            obtain rfl : ad111 = ad112 := (by injection e112)
            have qi112 : (0 < t104.length) = True := eq_true (by omega)
            (try rw [show ((0 : Int)).toNat = 0 from rfl] at hx112_0)
            (try rw [show 0 * 18 = 0 from rfl] at hx112_0)
            (try rw [Addr.add_zero'] at hx112_0)
            (try rw [show ((0 : Int)).toNat = 0 from rfl] at hx112_1)
            (try rw [show 0 * 18 = 0 from rfl] at hx112_1)
            (try rw [Addr.add_zero'] at hx112_1)
            (try rw [show ((0 : Int)).toNat = 0 from rfl] at hx112_2)
            (try rw [show 0 * 18 = 0 from rfl] at hx112_2)
            (try rw [Addr.add_zero'] at hx112_2)
            (try rw [show ((0 : Int)).toNat = 0 from rfl] at hx112_3)
            (try rw [show 0 * 18 = 0 from rfl] at hx112_3)
            (try rw [Addr.add_zero'] at hx112_3)
            (try rw [show ((0 : Int)).toNat = 0 from rfl] at hx112_4)
            (try rw [show 0 * 18 = 0 from rfl] at hx112_4)
            (try rw [Addr.add_zero'] at hx112_4)
            (try rw [show ((0 : Int)).toNat = 0 from rfl] at hx112_5)
            (try rw [show 0 * 18 = 0 from rfl] at hx112_5)
            (try rw [Addr.add_zero'] at hx112_5)
            (try rw [show ((0 : Int)).toNat = 0 from rfl] at hx112_6)
            (try rw [show 0 * 18 = 0 from rfl] at hx112_6)
            (try rw [Addr.add_zero'] at hx112_6)
            (try rw [show ((0 : Int)).toNat = 0 from rfl] at hx112_7)
            (try rw [show 0 * 18 = 0 from rfl] at hx112_7)
            (try rw [Addr.add_zero'] at hx112_7)
            (try rw [show ((0 : Int)).toNat = 0 from rfl] at hx112_8)
            (try rw [show 0 * 18 = 0 from rfl] at hx112_8)
            (try rw [Addr.add_zero'] at hx112_8)
            (try rw [show ((0 : Int)).toNat = 0 from rfl] at hx112_9)
            (try rw [show 0 * 18 = 0 from rfl] at hx112_9)
            (try rw [Addr.add_zero'] at hx112_9)
            (try rw [show ((0 : Int)).toNat = 0 from rfl] at hx112_10)
            (try rw [show 0 * 18 = 0 from rfl] at hx112_10)
            (try rw [Addr.add_zero'] at hx112_10)
            (try rw [show ((0 : Int)).toNat = 0 from rfl] at hx112_11)
            (try rw [show 0 * 18 = 0 from rfl] at hx112_11)
            (try rw [Addr.add_zero'] at hx112_11)
            (try rw [show ((0 : Int)).toNat = 0 from rfl] at hx112_12)
            (try rw [show 0 * 18 = 0 from rfl] at hx112_12)
            (try rw [Addr.add_zero'] at hx112_12)
            (try rw [show ((0 : Int)).toNat = 0 from rfl] at hx112_13)
            (try rw [show 0 * 18 = 0 from rfl] at hx112_13)
            (try rw [Addr.add_zero'] at hx112_13)
            (try rw [show ((0 : Int)).toNat = 0 from rfl] at hx112_14)
            (try rw [show 0 * 18 = 0 from rfl] at hx112_14)
            (try rw [Addr.add_zero'] at hx112_14)
            (try rw [show ((0 : Int)).toNat = 0 from rfl] at hx112_15)
            (try rw [show 0 * 18 = 0 from rfl] at hx112_15)
            (try rw [Addr.add_zero'] at hx112_15)
            (try rw [show ((0 : Int)).toNat = 0 from rfl] at hx112_16)
            (try rw [show 0 * 18 = 0 from rfl] at hx112_16)
            (try rw [Addr.add_zero'] at hx112_16)
            (try rw [show ((0 : Int)).toNat = 0 from rfl] at hx112_17)
            (try rw [show 0 * 18 = 0 from rfl] at hx112_17)
            (try rw [Addr.add_zero'] at hx112_17)
            replace p112 := eq_true p112
            replace q112 := eq_true q112
            go_wp2
            go_meet
            case rel => exact ⟨_, (true), (by first | rfl | (simp; done) | (simp [*]; done)), H', ⟨by first | omega | exact Nat.le_refl _⟩, ⟨by (with_reducible repeat (first | apply Kd.R_alloc | apply Kd.R_drewN | apply Kd.R_drew)); exact HO106.out⟩, ⟨by repeat (first | (with_reducible first | exact HI110.out | apply IsS65.alloc | apply IsS65.drewN | apply IsS65.drew | apply IsS65.set_0 | apply IsS65.set_1 | apply IsS65.set_2) | exact HI110.out)⟩, ⟨by repeat (first | (with_reducible first | exact HB.out | apply below_alloc | apply pw_below_drewN | apply below_drew1 | refine below_set ?_ (IsS65.ge HI110.out)) | exact HB.out)⟩⟩
        · rw [if_neg c8] at H
          have c8b0 : (((rd_T42 t104 0).f0) == 4) = false := beq_eq_false_iff_ne.mpr c8
          have c8b1 : (((rd_T42 t104 0).f0) != 4) = true := bne_iff_ne.mpr c8
          have H' := Aside0.mk H
          clear H
          obtain ⟨Ao12, co12, eo12⟩ := Kd.R_slice HO106.out
          subst eo12
          have p111 : 0 ≤ (0 : Int) := (by omega)
          have q111 : 0 < (t104.length : Int) := of_decide_eq_true (by first | (with_reducible assumption) | assumption)
          obtain ⟨ad111, e111, hx111_0, hx111_1, hx111_2, hx111_3, hx111_4, hx111_5, hx111_6, hx111_7, hx111_8, hx111_9, hx111_10, hx111_11, hx111_12, hx111_13, hx111_14, hx111_15, hx111_16, hx111_17⟩ := at_T42 (Kd.R_reads' HO106.out).2.2 0 p111 q111
          cases e111
          have qi111 : (0 < t104.length) = True := eq_true (by omega)
          (try rw [show ((0 : Int)).toNat = 0 from rfl] at hx111_0)
          (try rw [show 0 * 18 = 0 from rfl] at hx111_0)
          (try rw [Addr.add_zero'] at hx111_0)
          (try rw [show ((0 : Int)).toNat = 0 from rfl] at hx111_1)
          (try rw [show 0 * 18 = 0 from rfl] at hx111_1)
          (try rw [Addr.add_zero'] at hx111_1)
          (try rw [show ((0 : Int)).toNat = 0 from rfl] at hx111_2)
          (try rw [show 0 * 18 = 0 from rfl] at hx111_2)
          (try rw [Addr.add_zero'] at hx111_2)
          (try rw [show ((0 : Int)).toNat = 0 from rfl] at hx111_3)
          (try rw [show 0 * 18 = 0 from rfl] at hx111_3)
          (try rw [Addr.add_zero'] at hx111_3)
          (try rw [show ((0 : Int)).toNat = 0 from rfl] at hx111_4)
          (try rw [show 0 * 18 = 0 from rfl] at hx111_4)
          (try rw [Addr.add_zero'] at hx111_4)
          (try rw [show ((0 : Int)).toNat = 0 from rfl] at hx111_5)
          (try rw [show 0 * 18 = 0 from rfl] at hx111_5)
          (try rw [Addr.add_zero'] at hx111_5)
          (try rw [show ((0 : Int)).toNat = 0 from rfl] at hx111_6)
          (try rw [show 0 * 18 = 0 from rfl] at hx111_6)
          (try rw [Addr.add_zero'] at hx111_6)
          (try rw [show ((0 : Int)).toNat = 0 from rfl] at hx111_7)
          (try rw [show 0 * 18 = 0 from rfl] at hx111_7)
          (try rw [Addr.add_zero'] at hx111_7)
          (try rw [show ((0 : Int)).toNat = 0 from rfl] at hx111_8)
          (try rw [show 0 * 18 = 0 from rfl] at hx111_8)
          (try rw [Addr.add_zero'] at hx111_8)
          (try rw [show ((0 : Int)).toNat = 0 from rfl] at hx111_9)
          (try rw [show 0 * 18 = 0 from rfl] at hx111_9)
          (try rw [Addr.add_zero'] at hx111_9)
          (try rw [show ((0 : Int)).toNat = 0 from rfl] at hx111_10)
          (try rw [show 0 * 18 = 0 from rfl] at hx111_10)
          (try rw [Addr.add_zero'] at hx111_10)
          (try rw [show ((0 : Int)).toNat = 0 from rfl] at hx111_11)
          (try rw [show 0 * 18 = 0 from rfl] at hx111_11)
          (try rw [Addr.add_zero'] at hx111_11)
          (try rw [show ((0 : Int)).toNat = 0 from rfl] at hx111_12)
          (try rw [show 0 * 18 = 0 from rfl] at hx111_12)
          (try rw [Addr.add_zero'] at hx111_12)
          (try rw [show ((0 : Int)).toNat = 0 from rfl] at hx111_13)
          (try rw [show 0 * 18 = 0 from rfl] at hx111_13)
          (try rw [Addr.add_zero'] at hx111_13)
          (try rw [show ((0 : Int)).toNat = 0 from rfl] at hx111_14)
          (try rw [show 0 * 18 = 0 from rfl] at hx111_14)
          (try rw [Addr.add_zero'] at hx111_14)
          (try rw [show ((0 : Int)).toNat = 0 from rfl] at hx111_15)
          (try rw [show 0 * 18 = 0 from rfl] at hx111_15)
          (try rw [Addr.add_zero'] at hx111_15)
          (try rw [show ((0 : Int)).toNat = 0 from rfl] at hx111_16)
          (try rw [show 0 * 18 = 0 from rfl] at hx111_16)
          (try rw [Addr.add_zero'] at hx111_16)
          (try rw [show ((0 : Int)).toNat = 0 from rfl] at hx111_17)
          (try rw [show 0 * 18 = 0 from rfl] at hx111_17)
          (try rw [Addr.add_zero'] at hx111_17)
          replace p111 := eq_true p111
          replace q111 := eq_true q111
          go_wp2
          go_meet
          case rel => exact ⟨_, (true), (by first | rfl | (simp; done) | (simp [*]; done)), H', ⟨by first | omega | exact Nat.le_refl _⟩, ⟨by (with_reducible repeat (first | apply Kd.R_alloc | apply Kd.R_drewN | apply Kd.R_drew)); exact HO106.out⟩, ⟨by repeat (first | (with_reducible first | exact HI110.out | apply IsS65.alloc | apply IsS65.drewN | apply IsS65.drew | apply IsS65.set_0 | apply IsS65.set_1 | apply IsS65.set_2) | exact HI110.out)⟩, ⟨by repeat (first | (with_reducible first | exact HB.out | apply below_alloc | apply pw_below_drewN | apply below_drew1 | refine below_set ?_ (IsS65.ge HI110.out)) | exact HB.out)⟩⟩
      · rw [if_neg c7] at H
        exact absurd H (by simp)
    · rw [if_neg c6] at H
      have c6b0 : ((t104.length : Int) == 1) = false := beq_eq_false_iff_ne.mpr c6
      have c6b1 : ((t104.length : Int) != 1) = true := bne_iff_ne.mpr c6
      (first | rw [c6b0] | (simp only [i64_w, i32_w]; rw [c6b0]) | skip)
      have H' := Aside0.mk H
      clear H
      obtain ⟨Ao13, co13, eo13⟩ := Kd.R_slice HO106.out
      subst eo13
      go_wp2
      go_meet
      case rel => exact ⟨_, (true), (by first | rfl | (simp; done) | (simp [*]; done)), H', ⟨by first | omega | exact Nat.le_refl _⟩, ⟨by (with_reducible repeat (first | apply Kd.R_alloc | apply Kd.R_drewN | apply Kd.R_drew)); exact HO106.out⟩, ⟨by repeat (first | (with_reducible first | exact HI110.out | apply IsS65.alloc | apply IsS65.drewN | apply IsS65.drew | apply IsS65.set_0 | apply IsS65.set_1 | apply IsS65.set_2) | exact HI110.out)⟩, ⟨by repeat (first | (with_reducible first | exact HB.out | apply below_alloc | apply pw_below_drewN | apply below_drew1 | refine below_set ?_ (IsS65.ge HI110.out)) | exact HB.out)⟩⟩
  case rest =>
    clear HC3
    try clear c1
    try clear p1
    try clear q1
    try clear hx1
    try clear qi1
    try clear p2
    try clear c6
    try clear c6b0
    try clear c6b1
    try clear c7
    try clear c7b0
    try clear c7b1
    try clear c8
    try clear c8b0
    try clear c8b1
    try clear c9
    try clear c9b0
    try clear c9b1
    try clear c11
    try clear p11
    try clear q11
    try clear hx11
    try clear qi11
    try clear hx111_0
    try clear hx111_1
    try clear hx111_10
    try clear hx111_11
    try clear hx111_12
    try clear hx111_13
    try clear hx111_14
    try clear hx111_15
    try clear hx111_16
    try clear hx111_17
    try clear hx111_2
    try clear hx111_3
    try clear hx111_4
    try clear hx111_5
    try clear hx111_6
    try clear hx111_7
    try clear hx111_8
    try clear hx111_9
    try clear hx112_0
    try clear hx112_1
    try clear hx112_10
    try clear hx112_11
    try clear hx112_12
    try clear hx112_13
    try clear hx112_14
    try clear hx112_15
    try clear hx112_16
    try clear hx112_17
    try clear hx112_2
    try clear hx112_3
    try clear hx112_4
    try clear hx112_5
    try clear hx112_6
    try clear hx112_7
    try clear hx112_8
    try clear hx112_9
    try clear p111
    try clear p112
    try clear q111
    try clear q112
    obtain ⟨kq, x30_2, rfl, HA, HJ2, HO_1, HI110, HB⟩ := hcut
    cases kq with
    | zero => exact absurd HA.out (by simp [consortlaw23_awake.j0])
    | succ kj2 =>
      have H := HA.out
      clear HA
      simp only [consortlaw23_awake.j0] at H
      by_cases c14 : x30_2 = true
      · subst c14
        have H1 : (some false) = some r := by first | (rw [if_pos rfl] at H; done) | (rw [if_pos rfl] at H; exact H)
        clear H
        have H := H1
        clear H1
        obtain rfl := Option.some.inj H
        go_wp2
        go_ret
        exact ⟨by first | rfl | (simp [errW_none, errW_some] <;> rfl) | (simp [*, errW_none, errW_some] <;> rfl), by repeat (first | (with_reducible first | exact HB.out | apply below_alloc | apply pw_below_drewN | apply below_drew1 | refine below_set ?_ (IsS65.ge HI110.out)) | exact HB.out)⟩
      · replace c14 := Bool.eq_false_iff.mpr c14
        subst c14
        have H1 : ((chunk_Whole.f t107 t108 t109).bind fun bt113 => (if 0 < (t104.length : Int) then ((chunk_Take.f bt113.2.2.1 bt113.2.2.2.1 bt113.2.2.2.2 ((rd_T42 t104 0).f0) ((rd_T42 t104 0).f1) ((rd_T42 t104 0).f2) ((rd_T42 t104 0).f3) ((rd_T42 t104 0).f4) ((rd_T42 t104 0).f5) ((rd_T42 t104 0).f6.f0.f0) ((rd_T42 t104 0).f6.f0.f1.f0) ((rd_T42 t104 0).f6.f0.f1.f1) ((rd_T42 t104 0).f6.f0.f2) ((rd_T42 t104 0).f6.f1) ((rd_T42 t104 0).f7.f0) ((rd_T42 t104 0).f7.f1.f0) ((rd_T42 t104 0).f7.f1.f1) ((rd_T42 t104 0).f7.f2) ((rd_T42 t104 0).f8) ((rd_T42 t104 0).f9) ((rd_T42 t104 0).f10)).bind fun bt119 => ((chunk_Whole.f bt119.2.1 bt119.2.2.1 bt119.2.2.2).bind fun bt123 => (if bt113.2.1 = true then (some false) else (if bt119.1 = true then (if bt123.1.toList = ([97, 98] : List UInt8) then (if bt123.2.1 = true then ((chunk_Take.f bt123.2.2.1 bt123.2.2.2.1 bt123.2.2.2.2 ((rd_T42 t104 0).f0) ((rd_T42 t104 0).f1) ((rd_T42 t104 0).f2) ((rd_T42 t104 0).f3) ((rd_T42 t104 0).f4) ((rd_T42 t104 0).f5) ((rd_T42 t104 0).f6.f0.f0) ((rd_T42 t104 0).f6.f0.f1.f0) ((rd_T42 t104 0).f6.f0.f1.f1) ((rd_T42 t104 0).f6.f0.f2) ((rd_T42 t104 0).f6.f1) ((rd_T42 t104 0).f7.f0) ((rd_T42 t104 0).f7.f1.f0) ((rd_T42 t104 0).f7.f1.f1) ((rd_T42 t104 0).f7.f2) ((rd_T42 t104 0).f8) ((rd_T42 t104 0).f9) ((rd_T42 t104 0).f10)).bind fun bt129 => (if bt129.1 = true then (some false) else ((chunk_Items.f kj2 1 (⟨#[]⟩ : ByteArray)).bind fun t133 => (some ((t133.length : Int) == 1))))) else (some false)) else (some false)) else (some false))))) else (none))) = some r := by first | (rw [if_neg (show ¬ (false = true) by decide)] at H; done) | (rw [if_neg (show ¬ (false = true) by decide)] at H; exact H)
        clear H
        have H := H1
        clear H1
        replace H := Option.bind_eq_some_iff.mp H
        obtain ⟨⟨t113, t114, t115, t116, t117⟩, A150, H⟩ := H
        replace H : (if 0 < (t104.length : Int) then ((chunk_Take.f t115 t116 t117 ((rd_T42 t104 0).f0) ((rd_T42 t104 0).f1) ((rd_T42 t104 0).f2) ((rd_T42 t104 0).f3) ((rd_T42 t104 0).f4) ((rd_T42 t104 0).f5) ((rd_T42 t104 0).f6.f0.f0) ((rd_T42 t104 0).f6.f0.f1.f0) ((rd_T42 t104 0).f6.f0.f1.f1) ((rd_T42 t104 0).f6.f0.f2) ((rd_T42 t104 0).f6.f1) ((rd_T42 t104 0).f7.f0) ((rd_T42 t104 0).f7.f1.f0) ((rd_T42 t104 0).f7.f1.f1) ((rd_T42 t104 0).f7.f2) ((rd_T42 t104 0).f8) ((rd_T42 t104 0).f9) ((rd_T42 t104 0).f10)).bind fun bt119 => ((chunk_Whole.f bt119.2.1 bt119.2.2.1 bt119.2.2.2).bind fun bt123 => (if t114 = true then (some false) else (if bt119.1 = true then (if bt123.1.toList = ([97, 98] : List UInt8) then (if bt123.2.1 = true then ((chunk_Take.f bt123.2.2.1 bt123.2.2.2.1 bt123.2.2.2.2 ((rd_T42 t104 0).f0) ((rd_T42 t104 0).f1) ((rd_T42 t104 0).f2) ((rd_T42 t104 0).f3) ((rd_T42 t104 0).f4) ((rd_T42 t104 0).f5) ((rd_T42 t104 0).f6.f0.f0) ((rd_T42 t104 0).f6.f0.f1.f0) ((rd_T42 t104 0).f6.f0.f1.f1) ((rd_T42 t104 0).f6.f0.f2) ((rd_T42 t104 0).f6.f1) ((rd_T42 t104 0).f7.f0) ((rd_T42 t104 0).f7.f1.f0) ((rd_T42 t104 0).f7.f1.f1) ((rd_T42 t104 0).f7.f2) ((rd_T42 t104 0).f8) ((rd_T42 t104 0).f9) ((rd_T42 t104 0).f10)).bind fun bt129 => (if bt129.1 = true then (some false) else ((chunk_Items.f kj2 1 (⟨#[]⟩ : ByteArray)).bind fun t133 => (some ((t133.length : Int) == 1))))) else (some false)) else (some false)) else (some false))))) else (none)) = some r := H
        have A15 := Aside0.mk A150
        clear A150
        by_cases c16 : 0 < (t104.length : Int)
        · rw [if_pos c16] at H
          have c16b0 : decide (0 < (t104.length : Int)) = true := decide_eq_true c16
          have c16b1 : decide (0 < t104.length) = true := decide_eq_true (by omega)
          clear c16
          replace H := Option.bind_eq_some_iff.mp H
          obtain ⟨⟨t119, t120, t121, t122⟩, A170, H⟩ := H
          replace H : ((chunk_Whole.f t120 t121 t122).bind fun bt123 => (if t114 = true then (some false) else (if t119 = true then (if bt123.1.toList = ([97, 98] : List UInt8) then (if bt123.2.1 = true then ((chunk_Take.f bt123.2.2.1 bt123.2.2.2.1 bt123.2.2.2.2 ((rd_T42 t104 0).f0) ((rd_T42 t104 0).f1) ((rd_T42 t104 0).f2) ((rd_T42 t104 0).f3) ((rd_T42 t104 0).f4) ((rd_T42 t104 0).f5) ((rd_T42 t104 0).f6.f0.f0) ((rd_T42 t104 0).f6.f0.f1.f0) ((rd_T42 t104 0).f6.f0.f1.f1) ((rd_T42 t104 0).f6.f0.f2) ((rd_T42 t104 0).f6.f1) ((rd_T42 t104 0).f7.f0) ((rd_T42 t104 0).f7.f1.f0) ((rd_T42 t104 0).f7.f1.f1) ((rd_T42 t104 0).f7.f2) ((rd_T42 t104 0).f8) ((rd_T42 t104 0).f9) ((rd_T42 t104 0).f10)).bind fun bt129 => (if bt129.1 = true then (some false) else ((chunk_Items.f kj2 1 (⟨#[]⟩ : ByteArray)).bind fun t133 => (some ((t133.length : Int) == 1))))) else (some false)) else (some false)) else (some false)))) = some r := H
          have A17 := Aside0.mk A170
          clear A170
          replace H := Option.bind_eq_some_iff.mp H
          obtain ⟨⟨t123, t124, t125, t126, t127⟩, A180, H⟩ := H
          replace H : (if t114 = true then (some false) else (if t119 = true then (if t123.toList = ([97, 98] : List UInt8) then (if t124 = true then ((chunk_Take.f t125 t126 t127 ((rd_T42 t104 0).f0) ((rd_T42 t104 0).f1) ((rd_T42 t104 0).f2) ((rd_T42 t104 0).f3) ((rd_T42 t104 0).f4) ((rd_T42 t104 0).f5) ((rd_T42 t104 0).f6.f0.f0) ((rd_T42 t104 0).f6.f0.f1.f0) ((rd_T42 t104 0).f6.f0.f1.f1) ((rd_T42 t104 0).f6.f0.f2) ((rd_T42 t104 0).f6.f1) ((rd_T42 t104 0).f7.f0) ((rd_T42 t104 0).f7.f1.f0) ((rd_T42 t104 0).f7.f1.f1) ((rd_T42 t104 0).f7.f2) ((rd_T42 t104 0).f8) ((rd_T42 t104 0).f9) ((rd_T42 t104 0).f10)).bind fun bt129 => (if bt129.1 = true then (some false) else ((chunk_Items.f kj2 1 (⟨#[]⟩ : ByteArray)).bind fun t133 => (some ((t133.length : Int) == 1))))) else (some false)) else (some false)) else (some false))) = some r := H
          have A18 := Aside0.mk A180
          clear A180
          by_cases c19 : t114 = true
          · subst c19
            have H1 : (some false) = some r := by first | (rw [if_pos rfl] at H; done) | (rw [if_pos rfl] at H; exact H)
            clear H
            have H := H1
            clear H1
            obtain rfl := Option.some.inj H
            go_wp2_with (first | ((with_reducible refine gate_dst (N := 39) rfl ?_); refine load_event rfl (.tmp 38) 42 rfl rfl (load42_0 (Kd.R_reads' HO_1.out).2.2 (of_decide_eq_true (by first | (with_reducible assumption) | assumption))) ?_; simp only [v42]) | ((with_reducible refine gate_dst (N := 62) rfl ?_); refine gate_guard (by first | rfl | kernel_rfl) ?_; refine load_event rfl (.tmp 61) 42 rfl rfl (load42_0 (Kd.R_reads' HO_1.out).2.2 (of_decide_eq_true (by first | (with_reducible assumption) | assumption))) ?_; simp only [v42]) | ((with_reducible refine gate_callee (f := 13) rfl ?_); refine goesL_ (some 33) rfl rfl Try.func13 (by kernel_rfl) rfl #[.pointer (some ⟨g110, 0, none⟩)] rfl (by (try simp only [List.map_toArray, List.map_cons, List.map_nil]); first | done | rfl | (simp only [List.length_drop, List.length_take]; rfl)) ?_; (with_reducible refine (chunk_Whole.calls g110 t107 t108 t109 t113 true t115 t116 t117 w _ ?side1 ?side2 A15.out).mono ?_); (case side1 => repeat (first | (with_reducible first | exact HI110.out | apply IsS65.alloc | apply IsS65.drewN | apply IsS65.drew | apply IsS65.set_0 | apply IsS65.set_1 | apply IsS65.set_2) | exact HI110.out)); (case side2 => repeat (first | (with_reducible first | exact HB.out | apply below_alloc | apply pw_below_drewN | apply below_drew1 | refine below_set ?_ (IsS65.ge HI110.out)) | exact HB.out)); rintro e w20 ⟨rfl, hi, hb, hk⟩; refine ⟨_, rfl, ?_⟩; have n0_ := Aside0.mk (Kd.R_mono (Kd.R_keep (IsS65.apart (show IsS65 w _ g110 t107 t108 t109 from by repeat (first | (with_reducible first | exact HI110.out | apply IsS65.alloc | apply IsS65.drewN | apply IsS65.drew | apply IsS65.set_0 | apply IsS65.set_1 | apply IsS65.set_2) | exact HI110.out)) (by (with_reducible repeat (first | apply Kd.R_alloc | apply Kd.R_drewN | apply Kd.R_drew)); exact HO_1.out) (by decide)) hk (fun _ h => h.2)) (fun _ h => h.1)); have n1_ := Aside0.mk (hb); have n2_ := Aside0.mk (hi); clear HO_1; clear HB; clear HI110; have HO_1 := n0_; have HB := n1_; have HI110 := n2_; clear n0_ n1_ n2_; (try clear hb); (try clear hb2); (try clear hk); (try clear hi); obtain ⟨Ao21, co21, eo21⟩ := Kd.R_slice HO_1.out; subst eo21; have p118 : 0 ≤ (0 : Int) := (by omega); have q118 : 0 < (t104.length : Int) := of_decide_eq_true (by first | (with_reducible assumption) | assumption); obtain ⟨ad118, e118, hx118_0, hx118_1, hx118_2, hx118_3, hx118_4, hx118_5, hx118_6, hx118_7, hx118_8, hx118_9, hx118_10, hx118_11, hx118_12, hx118_13, hx118_14, hx118_15, hx118_16, hx118_17⟩ := at_T42 (Kd.R_reads' HO_1.out).2.2 0 p118 q118; cases e118; have qi118 : (0 < t104.length) = True := eq_true (by omega); (try rw [show ((0 : Int)).toNat = 0 from rfl] at hx118_0); (try rw [show 0 * 18 = 0 from rfl] at hx118_0); (try rw [Addr.add_zero'] at hx118_0); (try rw [show ((0 : Int)).toNat = 0 from rfl] at hx118_1); (try rw [show 0 * 18 = 0 from rfl] at hx118_1); (try rw [Addr.add_zero'] at hx118_1); (try rw [show ((0 : Int)).toNat = 0 from rfl] at hx118_2); (try rw [show 0 * 18 = 0 from rfl] at hx118_2); (try rw [Addr.add_zero'] at hx118_2); (try rw [show ((0 : Int)).toNat = 0 from rfl] at hx118_3); (try rw [show 0 * 18 = 0 from rfl] at hx118_3); (try rw [Addr.add_zero'] at hx118_3); (try rw [show ((0 : Int)).toNat = 0 from rfl] at hx118_4); (try rw [show 0 * 18 = 0 from rfl] at hx118_4); (try rw [Addr.add_zero'] at hx118_4); (try rw [show ((0 : Int)).toNat = 0 from rfl] at hx118_5); (try rw [show 0 * 18 = 0 from rfl] at hx118_5); (try rw [Addr.add_zero'] at hx118_5); (try rw [show ((0 : Int)).toNat = 0 from rfl] at hx118_6); (try rw [show 0 * 18 = 0 from rfl] at hx118_6); (try rw [Addr.add_zero'] at hx118_6); (try rw [show ((0 : Int)).toNat = 0 from rfl] at hx118_7); (try rw [show 0 * 18 = 0 from rfl] at hx118_7); (try rw [Addr.add_zero'] at hx118_7); (try rw [show ((0 : Int)).toNat = 0 from rfl] at hx118_8); (try rw [show 0 * 18 = 0 from rfl] at hx118_8); (try rw [Addr.add_zero'] at hx118_8); (try rw [show ((0 : Int)).toNat = 0 from rfl] at hx118_9); (try rw [show 0 * 18 = 0 from rfl] at hx118_9); (try rw [Addr.add_zero'] at hx118_9); (try rw [show ((0 : Int)).toNat = 0 from rfl] at hx118_10); (try rw [show 0 * 18 = 0 from rfl] at hx118_10); (try rw [Addr.add_zero'] at hx118_10); (try rw [show ((0 : Int)).toNat = 0 from rfl] at hx118_11); (try rw [show 0 * 18 = 0 from rfl] at hx118_11); (try rw [Addr.add_zero'] at hx118_11); (try rw [show ((0 : Int)).toNat = 0 from rfl] at hx118_12); (try rw [show 0 * 18 = 0 from rfl] at hx118_12); (try rw [Addr.add_zero'] at hx118_12); (try rw [show ((0 : Int)).toNat = 0 from rfl] at hx118_13); (try rw [show 0 * 18 = 0 from rfl] at hx118_13); (try rw [Addr.add_zero'] at hx118_13); (try rw [show ((0 : Int)).toNat = 0 from rfl] at hx118_14); (try rw [show 0 * 18 = 0 from rfl] at hx118_14); (try rw [Addr.add_zero'] at hx118_14); (try rw [show ((0 : Int)).toNat = 0 from rfl] at hx118_15); (try rw [show 0 * 18 = 0 from rfl] at hx118_15); (try rw [Addr.add_zero'] at hx118_15); (try rw [show ((0 : Int)).toNat = 0 from rfl] at hx118_16); (try rw [show 0 * 18 = 0 from rfl] at hx118_16); (try rw [Addr.add_zero'] at hx118_16); (try rw [show ((0 : Int)).toNat = 0 from rfl] at hx118_17); (try rw [show 0 * 18 = 0 from rfl] at hx118_17); (try rw [Addr.add_zero'] at hx118_17); replace p118 := eq_true p118; replace q118 := eq_true q118) | ((with_reducible refine gate_callee (f := 12) rfl ?_); refine goesL_ (some 40) rfl rfl Try.func12 (by kernel_rfl) rfl #[.pointer (some ⟨g110, 0, none⟩), .agg #[.int .i64 ((rd_T42 t104 0).f0), .string ((rd_T42 t104 0).f1), .int .u32 ((rd_T42 t104 0).f2), .int .u64 ((rd_T42 t104 0).f3), .bool ((rd_T42 t104 0).f4), .bool ((rd_T42 t104 0).f5), .int .u64 ((rd_T42 t104 0).f6.f0.f0), .int .u64 ((rd_T42 t104 0).f6.f0.f1.f0), .int .i64 ((rd_T42 t104 0).f6.f0.f1.f1), .int .u64 ((rd_T42 t104 0).f6.f0.f2), .slice ((rd_T42 t104 0).f6.f1).A ((rd_T42 t104 0).f6.f1).n ((rd_T42 t104 0).f6.f1).c, .int .u64 ((rd_T42 t104 0).f7.f0), .int .u64 ((rd_T42 t104 0).f7.f1.f0), .int .i64 ((rd_T42 t104 0).f7.f1.f1), .int .u64 ((rd_T42 t104 0).f7.f2), .int .u64 ((rd_T42 t104 0).f8), .int .i64 ((rd_T42 t104 0).f9), .int .i64 ((rd_T42 t104 0).f10)]] rfl (by (try simp only [List.map_toArray, List.map_cons, List.map_nil]); first | done | rfl | (simp only [List.length_drop, List.length_take]; rfl)) ?_; (with_reducible refine (chunk_Take.calls g110 t115 t116 t117 ((rd_T42 t104 0).f0) ((rd_T42 t104 0).f1) ((rd_T42 t104 0).f2) ((rd_T42 t104 0).f3) ((rd_T42 t104 0).f4) ((rd_T42 t104 0).f5) ((rd_T42 t104 0).f6.f0.f0) ((rd_T42 t104 0).f6.f0.f1.f0) ((rd_T42 t104 0).f6.f0.f1.f1) ((rd_T42 t104 0).f6.f0.f2) ((rd_T42 t104 0).f6.f1) ((rd_T42 t104 0).f7.f0) ((rd_T42 t104 0).f7.f1.f0) ((rd_T42 t104 0).f7.f1.f1) ((rd_T42 t104 0).f7.f2) ((rd_T42 t104 0).f8) ((rd_T42 t104 0).f9) ((rd_T42 t104 0).f10) t119 t120 t121 t122 w _ ?side1 ?side2 A17.out).mono ?_); (case side1 => repeat (first | (with_reducible first | exact HI110.out | apply IsS65.alloc | apply IsS65.drewN | apply IsS65.drew | apply IsS65.set_0 | apply IsS65.set_1 | apply IsS65.set_2) | exact HI110.out)); (case side2 => repeat (first | (with_reducible first | exact HB.out | apply below_alloc | apply pw_below_drewN | apply below_drew1 | refine below_set ?_ (IsS65.ge HI110.out)) | exact HB.out)); rintro e w22 ⟨rfl, hi, hb, hk⟩; refine ⟨_, rfl, ?_⟩; have n0_ := Aside0.mk (Kd.R_mono (Kd.R_keep (IsS65.apart (show IsS65 w _ g110 t115 t116 t117 from by repeat (first | (with_reducible first | exact HI110.out | apply IsS65.alloc | apply IsS65.drewN | apply IsS65.drew | apply IsS65.set_0 | apply IsS65.set_1 | apply IsS65.set_2) | exact HI110.out)) (by (with_reducible repeat (first | apply Kd.R_alloc | apply Kd.R_drewN | apply Kd.R_drew)); exact HO_1.out) (by decide)) hk (fun _ h => h.2)) (fun _ h => h.1)); have n1_ := Aside0.mk (hb); have n2_ := Aside0.mk (hi); clear HO_1; clear HB; clear HI110; have HO_1 := n0_; have HB := n1_; have HI110 := n2_; clear n0_ n1_ n2_; (try clear hb); (try clear hb2); (try clear hk); (try clear hi)) | ((with_reducible refine gate_callee (f := 13) rfl ?_); refine goesL_ (some 43) rfl rfl Try.func13 (by kernel_rfl) rfl #[.pointer (some ⟨g110, 0, none⟩)] rfl (by (try simp only [List.map_toArray, List.map_cons, List.map_nil]); first | done | rfl | (simp only [List.length_drop, List.length_take]; rfl)) ?_; (with_reducible refine (chunk_Whole.calls g110 t120 t121 t122 t123 t124 t125 t126 t127 w _ ?side1 ?side2 A18.out).mono ?_); (case side1 => repeat (first | (with_reducible first | exact HI110.out | apply IsS65.alloc | apply IsS65.drewN | apply IsS65.drew | apply IsS65.set_0 | apply IsS65.set_1 | apply IsS65.set_2) | exact HI110.out)); (case side2 => repeat (first | (with_reducible first | exact HB.out | apply below_alloc | apply pw_below_drewN | apply below_drew1 | refine below_set ?_ (IsS65.ge HI110.out)) | exact HB.out)); rintro e w23 ⟨rfl, hi, hb, hk⟩; refine ⟨_, rfl, ?_⟩; have n0_ := Aside0.mk (Kd.R_mono (Kd.R_keep (IsS65.apart (show IsS65 w _ g110 t120 t121 t122 from by repeat (first | (with_reducible first | exact HI110.out | apply IsS65.alloc | apply IsS65.drewN | apply IsS65.drew | apply IsS65.set_0 | apply IsS65.set_1 | apply IsS65.set_2) | exact HI110.out)) (by (with_reducible repeat (first | apply Kd.R_alloc | apply Kd.R_drewN | apply Kd.R_drew)); exact HO_1.out) (by decide)) hk (fun _ h => h.2)) (fun _ h => h.1)); have n1_ := Aside0.mk (hb); have n2_ := Aside0.mk (hi); clear HO_1; clear HB; clear HI110; have HO_1 := n0_; have HB := n1_; have HI110 := n2_; clear n0_ n1_ n2_; (try clear hb); (try clear hb2); (try clear hk); (try clear hi)))
            go_ret
            exact ⟨by first | rfl | (simp [errW_none, errW_some] <;> rfl) | (simp [*, errW_none, errW_some] <;> rfl), by repeat (first | (with_reducible first | exact HB.out | apply below_alloc | apply pw_below_drewN | apply below_drew1 | refine below_set ?_ (IsS65.ge HI110.out)) | exact HB.out)⟩
          · replace c19 := Bool.eq_false_iff.mpr c19
            subst c19
            have H1 : (if t119 = true then (if t123.toList = ([97, 98] : List UInt8) then (if t124 = true then ((chunk_Take.f t125 t126 t127 ((rd_T42 t104 0).f0) ((rd_T42 t104 0).f1) ((rd_T42 t104 0).f2) ((rd_T42 t104 0).f3) ((rd_T42 t104 0).f4) ((rd_T42 t104 0).f5) ((rd_T42 t104 0).f6.f0.f0) ((rd_T42 t104 0).f6.f0.f1.f0) ((rd_T42 t104 0).f6.f0.f1.f1) ((rd_T42 t104 0).f6.f0.f2) ((rd_T42 t104 0).f6.f1) ((rd_T42 t104 0).f7.f0) ((rd_T42 t104 0).f7.f1.f0) ((rd_T42 t104 0).f7.f1.f1) ((rd_T42 t104 0).f7.f2) ((rd_T42 t104 0).f8) ((rd_T42 t104 0).f9) ((rd_T42 t104 0).f10)).bind fun bt129 => (if bt129.1 = true then (some false) else ((chunk_Items.f kj2 1 (⟨#[]⟩ : ByteArray)).bind fun t133 => (some ((t133.length : Int) == 1))))) else (some false)) else (some false)) else (some false)) = some r := by first | (rw [if_neg (show ¬ (false = true) by decide)] at H; done) | (rw [if_neg (show ¬ (false = true) by decide)] at H; exact H)
            clear H
            have H := H1
            clear H1
            by_cases c24 : t119 = true
            · subst c24
              have H1 : (if t123.toList = ([97, 98] : List UInt8) then (if t124 = true then ((chunk_Take.f t125 t126 t127 ((rd_T42 t104 0).f0) ((rd_T42 t104 0).f1) ((rd_T42 t104 0).f2) ((rd_T42 t104 0).f3) ((rd_T42 t104 0).f4) ((rd_T42 t104 0).f5) ((rd_T42 t104 0).f6.f0.f0) ((rd_T42 t104 0).f6.f0.f1.f0) ((rd_T42 t104 0).f6.f0.f1.f1) ((rd_T42 t104 0).f6.f0.f2) ((rd_T42 t104 0).f6.f1) ((rd_T42 t104 0).f7.f0) ((rd_T42 t104 0).f7.f1.f0) ((rd_T42 t104 0).f7.f1.f1) ((rd_T42 t104 0).f7.f2) ((rd_T42 t104 0).f8) ((rd_T42 t104 0).f9) ((rd_T42 t104 0).f10)).bind fun bt129 => (if bt129.1 = true then (some false) else ((chunk_Items.f kj2 1 (⟨#[]⟩ : ByteArray)).bind fun t133 => (some ((t133.length : Int) == 1))))) else (some false)) else (some false)) = some r := by first | (rw [if_pos rfl] at H; done) | (rw [if_pos rfl] at H; exact H)
              clear H
              have H := H1
              clear H1
              by_cases c25 : t123.toList = ([97, 98] : List UInt8)
              · rw [if_pos c25] at H
                have c25b0 : (t123.toList == ([97, 98] : List UInt8)) = true := beq_iff_eq.mpr c25
                have c25b1 : (t123.toList != ([97, 98] : List UInt8)) = false := bne_eq_false_iff_eq.mpr c25
                clear c25
                by_cases c26 : t124 = true
                · subst c26
                  have H1 : ((chunk_Take.f t125 t126 t127 ((rd_T42 t104 0).f0) ((rd_T42 t104 0).f1) ((rd_T42 t104 0).f2) ((rd_T42 t104 0).f3) ((rd_T42 t104 0).f4) ((rd_T42 t104 0).f5) ((rd_T42 t104 0).f6.f0.f0) ((rd_T42 t104 0).f6.f0.f1.f0) ((rd_T42 t104 0).f6.f0.f1.f1) ((rd_T42 t104 0).f6.f0.f2) ((rd_T42 t104 0).f6.f1) ((rd_T42 t104 0).f7.f0) ((rd_T42 t104 0).f7.f1.f0) ((rd_T42 t104 0).f7.f1.f1) ((rd_T42 t104 0).f7.f2) ((rd_T42 t104 0).f8) ((rd_T42 t104 0).f9) ((rd_T42 t104 0).f10)).bind fun bt129 => (if bt129.1 = true then (some false) else ((chunk_Items.f kj2 1 (⟨#[]⟩ : ByteArray)).bind fun t133 => (some ((t133.length : Int) == 1))))) = some r := by first | (rw [if_pos rfl] at H; done) | (rw [if_pos rfl] at H; exact H)
                  clear H
                  have H := H1
                  clear H1
                  replace H := Option.bind_eq_some_iff.mp H
                  obtain ⟨⟨t129, t130, t131, t132⟩, A270, H⟩ := H
                  replace H : (if t129 = true then (some false) else ((chunk_Items.f kj2 1 (⟨#[]⟩ : ByteArray)).bind fun t133 => (some ((t133.length : Int) == 1)))) = some r := H
                  have A27 := Aside0.mk A270
                  clear A270
                  by_cases c28 : t129 = true
                  · subst c28
                    have H1 : (some false) = some r := by first | (rw [if_pos rfl] at H; done) | (rw [if_pos rfl] at H; exact H)
                    clear H
                    have H := H1
                    clear H1
                    obtain rfl := Option.some.inj H
                    go_wp2_with (first | ((with_reducible refine gate_dst (N := 39) rfl ?_); refine load_event rfl (.tmp 38) 42 rfl rfl (load42_0 (Kd.R_reads' HO_1.out).2.2 (of_decide_eq_true (by first | (with_reducible assumption) | assumption))) ?_; simp only [v42]) | ((with_reducible refine gate_dst (N := 62) rfl ?_); refine gate_guard (by first | rfl | kernel_rfl) ?_; refine load_event rfl (.tmp 61) 42 rfl rfl (load42_0 (Kd.R_reads' HO_1.out).2.2 (of_decide_eq_true (by first | (with_reducible assumption) | assumption))) ?_; simp only [v42]) | ((with_reducible refine gate_callee (f := 13) rfl ?_); refine goesL_ (some 33) rfl rfl Try.func13 (by kernel_rfl) rfl #[.pointer (some ⟨g110, 0, none⟩)] rfl (by (try simp only [List.map_toArray, List.map_cons, List.map_nil]); first | done | rfl | (simp only [List.length_drop, List.length_take]; rfl)) ?_; (with_reducible refine (chunk_Whole.calls g110 t107 t108 t109 t113 false t115 t116 t117 w _ ?side1 ?side2 A15.out).mono ?_); (case side1 => repeat (first | (with_reducible first | exact HI110.out | apply IsS65.alloc | apply IsS65.drewN | apply IsS65.drew | apply IsS65.set_0 | apply IsS65.set_1 | apply IsS65.set_2) | exact HI110.out)); (case side2 => repeat (first | (with_reducible first | exact HB.out | apply below_alloc | apply pw_below_drewN | apply below_drew1 | refine below_set ?_ (IsS65.ge HI110.out)) | exact HB.out)); rintro e w29 ⟨rfl, hi, hb, hk⟩; refine ⟨_, rfl, ?_⟩; have n0_ := Aside0.mk (Kd.R_mono (Kd.R_keep (IsS65.apart (show IsS65 w _ g110 t107 t108 t109 from by repeat (first | (with_reducible first | exact HI110.out | apply IsS65.alloc | apply IsS65.drewN | apply IsS65.drew | apply IsS65.set_0 | apply IsS65.set_1 | apply IsS65.set_2) | exact HI110.out)) (by (with_reducible repeat (first | apply Kd.R_alloc | apply Kd.R_drewN | apply Kd.R_drew)); exact HO_1.out) (by decide)) hk (fun _ h => h.2)) (fun _ h => h.1)); have n1_ := Aside0.mk (hb); have n2_ := Aside0.mk (hi); clear HO_1; clear HB; clear HI110; have HO_1 := n0_; have HB := n1_; have HI110 := n2_; clear n0_ n1_ n2_; (try clear hb); (try clear hb2); (try clear hk); (try clear hi); obtain ⟨Ao30, co30, eo30⟩ := Kd.R_slice HO_1.out; subst eo30; have p118 : 0 ≤ (0 : Int) := (by omega); have q118 : 0 < (t104.length : Int) := of_decide_eq_true (by first | (with_reducible assumption) | assumption); obtain ⟨ad118, e118, hx118_0, hx118_1, hx118_2, hx118_3, hx118_4, hx118_5, hx118_6, hx118_7, hx118_8, hx118_9, hx118_10, hx118_11, hx118_12, hx118_13, hx118_14, hx118_15, hx118_16, hx118_17⟩ := at_T42 (Kd.R_reads' HO_1.out).2.2 0 p118 q118; cases e118; have qi118 : (0 < t104.length) = True := eq_true (by omega); (try rw [show ((0 : Int)).toNat = 0 from rfl] at hx118_0); (try rw [show 0 * 18 = 0 from rfl] at hx118_0); (try rw [Addr.add_zero'] at hx118_0); (try rw [show ((0 : Int)).toNat = 0 from rfl] at hx118_1); (try rw [show 0 * 18 = 0 from rfl] at hx118_1); (try rw [Addr.add_zero'] at hx118_1); (try rw [show ((0 : Int)).toNat = 0 from rfl] at hx118_2); (try rw [show 0 * 18 = 0 from rfl] at hx118_2); (try rw [Addr.add_zero'] at hx118_2); (try rw [show ((0 : Int)).toNat = 0 from rfl] at hx118_3); (try rw [show 0 * 18 = 0 from rfl] at hx118_3); (try rw [Addr.add_zero'] at hx118_3); (try rw [show ((0 : Int)).toNat = 0 from rfl] at hx118_4); (try rw [show 0 * 18 = 0 from rfl] at hx118_4); (try rw [Addr.add_zero'] at hx118_4); (try rw [show ((0 : Int)).toNat = 0 from rfl] at hx118_5); (try rw [show 0 * 18 = 0 from rfl] at hx118_5); (try rw [Addr.add_zero'] at hx118_5); (try rw [show ((0 : Int)).toNat = 0 from rfl] at hx118_6); (try rw [show 0 * 18 = 0 from rfl] at hx118_6); (try rw [Addr.add_zero'] at hx118_6); (try rw [show ((0 : Int)).toNat = 0 from rfl] at hx118_7); (try rw [show 0 * 18 = 0 from rfl] at hx118_7); (try rw [Addr.add_zero'] at hx118_7); (try rw [show ((0 : Int)).toNat = 0 from rfl] at hx118_8); (try rw [show 0 * 18 = 0 from rfl] at hx118_8); (try rw [Addr.add_zero'] at hx118_8); (try rw [show ((0 : Int)).toNat = 0 from rfl] at hx118_9); (try rw [show 0 * 18 = 0 from rfl] at hx118_9); (try rw [Addr.add_zero'] at hx118_9); (try rw [show ((0 : Int)).toNat = 0 from rfl] at hx118_10); (try rw [show 0 * 18 = 0 from rfl] at hx118_10); (try rw [Addr.add_zero'] at hx118_10); (try rw [show ((0 : Int)).toNat = 0 from rfl] at hx118_11); (try rw [show 0 * 18 = 0 from rfl] at hx118_11); (try rw [Addr.add_zero'] at hx118_11); (try rw [show ((0 : Int)).toNat = 0 from rfl] at hx118_12); (try rw [show 0 * 18 = 0 from rfl] at hx118_12); (try rw [Addr.add_zero'] at hx118_12); (try rw [show ((0 : Int)).toNat = 0 from rfl] at hx118_13); (try rw [show 0 * 18 = 0 from rfl] at hx118_13); (try rw [Addr.add_zero'] at hx118_13); (try rw [show ((0 : Int)).toNat = 0 from rfl] at hx118_14); (try rw [show 0 * 18 = 0 from rfl] at hx118_14); (try rw [Addr.add_zero'] at hx118_14); (try rw [show ((0 : Int)).toNat = 0 from rfl] at hx118_15); (try rw [show 0 * 18 = 0 from rfl] at hx118_15); (try rw [Addr.add_zero'] at hx118_15); (try rw [show ((0 : Int)).toNat = 0 from rfl] at hx118_16); (try rw [show 0 * 18 = 0 from rfl] at hx118_16); (try rw [Addr.add_zero'] at hx118_16); (try rw [show ((0 : Int)).toNat = 0 from rfl] at hx118_17); (try rw [show 0 * 18 = 0 from rfl] at hx118_17); (try rw [Addr.add_zero'] at hx118_17); replace p118 := eq_true p118; replace q118 := eq_true q118) | ((with_reducible refine gate_callee (f := 12) rfl ?_); refine goesL_ (some 40) rfl rfl Try.func12 (by kernel_rfl) rfl #[.pointer (some ⟨g110, 0, none⟩), .agg #[.int .i64 ((rd_T42 t104 0).f0), .string ((rd_T42 t104 0).f1), .int .u32 ((rd_T42 t104 0).f2), .int .u64 ((rd_T42 t104 0).f3), .bool ((rd_T42 t104 0).f4), .bool ((rd_T42 t104 0).f5), .int .u64 ((rd_T42 t104 0).f6.f0.f0), .int .u64 ((rd_T42 t104 0).f6.f0.f1.f0), .int .i64 ((rd_T42 t104 0).f6.f0.f1.f1), .int .u64 ((rd_T42 t104 0).f6.f0.f2), .slice ((rd_T42 t104 0).f6.f1).A ((rd_T42 t104 0).f6.f1).n ((rd_T42 t104 0).f6.f1).c, .int .u64 ((rd_T42 t104 0).f7.f0), .int .u64 ((rd_T42 t104 0).f7.f1.f0), .int .i64 ((rd_T42 t104 0).f7.f1.f1), .int .u64 ((rd_T42 t104 0).f7.f2), .int .u64 ((rd_T42 t104 0).f8), .int .i64 ((rd_T42 t104 0).f9), .int .i64 ((rd_T42 t104 0).f10)]] rfl (by (try simp only [List.map_toArray, List.map_cons, List.map_nil]); first | done | rfl | (simp only [List.length_drop, List.length_take]; rfl)) ?_; (with_reducible refine (chunk_Take.calls g110 t115 t116 t117 ((rd_T42 t104 0).f0) ((rd_T42 t104 0).f1) ((rd_T42 t104 0).f2) ((rd_T42 t104 0).f3) ((rd_T42 t104 0).f4) ((rd_T42 t104 0).f5) ((rd_T42 t104 0).f6.f0.f0) ((rd_T42 t104 0).f6.f0.f1.f0) ((rd_T42 t104 0).f6.f0.f1.f1) ((rd_T42 t104 0).f6.f0.f2) ((rd_T42 t104 0).f6.f1) ((rd_T42 t104 0).f7.f0) ((rd_T42 t104 0).f7.f1.f0) ((rd_T42 t104 0).f7.f1.f1) ((rd_T42 t104 0).f7.f2) ((rd_T42 t104 0).f8) ((rd_T42 t104 0).f9) ((rd_T42 t104 0).f10) true t120 t121 t122 w _ ?side1 ?side2 A17.out).mono ?_); (case side1 => repeat (first | (with_reducible first | exact HI110.out | apply IsS65.alloc | apply IsS65.drewN | apply IsS65.drew | apply IsS65.set_0 | apply IsS65.set_1 | apply IsS65.set_2) | exact HI110.out)); (case side2 => repeat (first | (with_reducible first | exact HB.out | apply below_alloc | apply pw_below_drewN | apply below_drew1 | refine below_set ?_ (IsS65.ge HI110.out)) | exact HB.out)); rintro e w31 ⟨rfl, hi, hb, hk⟩; refine ⟨_, rfl, ?_⟩; have n0_ := Aside0.mk (Kd.R_mono (Kd.R_keep (IsS65.apart (show IsS65 w _ g110 t115 t116 t117 from by repeat (first | (with_reducible first | exact HI110.out | apply IsS65.alloc | apply IsS65.drewN | apply IsS65.drew | apply IsS65.set_0 | apply IsS65.set_1 | apply IsS65.set_2) | exact HI110.out)) (by (with_reducible repeat (first | apply Kd.R_alloc | apply Kd.R_drewN | apply Kd.R_drew)); exact HO_1.out) (by decide)) hk (fun _ h => h.2)) (fun _ h => h.1)); have n1_ := Aside0.mk (hb); have n2_ := Aside0.mk (hi); clear HO_1; clear HB; clear HI110; have HO_1 := n0_; have HB := n1_; have HI110 := n2_; clear n0_ n1_ n2_; (try clear hb); (try clear hb2); (try clear hk); (try clear hi)) | ((with_reducible refine gate_callee (f := 13) rfl ?_); refine goesL_ (some 43) rfl rfl Try.func13 (by kernel_rfl) rfl #[.pointer (some ⟨g110, 0, none⟩)] rfl (by (try simp only [List.map_toArray, List.map_cons, List.map_nil]); first | done | rfl | (simp only [List.length_drop, List.length_take]; rfl)) ?_; (with_reducible refine (chunk_Whole.calls g110 t120 t121 t122 t123 true t125 t126 t127 w _ ?side1 ?side2 A18.out).mono ?_); (case side1 => repeat (first | (with_reducible first | exact HI110.out | apply IsS65.alloc | apply IsS65.drewN | apply IsS65.drew | apply IsS65.set_0 | apply IsS65.set_1 | apply IsS65.set_2) | exact HI110.out)); (case side2 => repeat (first | (with_reducible first | exact HB.out | apply below_alloc | apply pw_below_drewN | apply below_drew1 | refine below_set ?_ (IsS65.ge HI110.out)) | exact HB.out)); rintro e w32 ⟨rfl, hi, hb, hk⟩; refine ⟨_, rfl, ?_⟩; have n0_ := Aside0.mk (Kd.R_mono (Kd.R_keep (IsS65.apart (show IsS65 w _ g110 t120 t121 t122 from by repeat (first | (with_reducible first | exact HI110.out | apply IsS65.alloc | apply IsS65.drewN | apply IsS65.drew | apply IsS65.set_0 | apply IsS65.set_1 | apply IsS65.set_2) | exact HI110.out)) (by (with_reducible repeat (first | apply Kd.R_alloc | apply Kd.R_drewN | apply Kd.R_drew)); exact HO_1.out) (by decide)) hk (fun _ h => h.2)) (fun _ h => h.1)); have n1_ := Aside0.mk (hb); have n2_ := Aside0.mk (hi); clear HO_1; clear HB; clear HI110; have HO_1 := n0_; have HB := n1_; have HI110 := n2_; clear n0_ n1_ n2_; (try clear hb); (try clear hb2); (try clear hk); (try clear hi); have p128 : 0 ≤ (0 : Int) := (by omega); have q128 : 0 < (t104.length : Int) := of_decide_eq_true (by first | (with_reducible assumption) | assumption); obtain ⟨ad128, e128, hx128_0, hx128_1, hx128_2, hx128_3, hx128_4, hx128_5, hx128_6, hx128_7, hx128_8, hx128_9, hx128_10, hx128_11, hx128_12, hx128_13, hx128_14, hx128_15, hx128_16, hx128_17⟩ := at_T42 (Kd.R_reads' HO_1.out).2.2 0 p128 q128; obtain rfl : ad118 = ad128 := (by injection e128); have qi128 : (0 < t104.length) = True := eq_true (by omega); (try rw [show ((0 : Int)).toNat = 0 from rfl] at hx128_0); (try rw [show 0 * 18 = 0 from rfl] at hx128_0); (try rw [Addr.add_zero'] at hx128_0); (try rw [show ((0 : Int)).toNat = 0 from rfl] at hx128_1); (try rw [show 0 * 18 = 0 from rfl] at hx128_1); (try rw [Addr.add_zero'] at hx128_1); (try rw [show ((0 : Int)).toNat = 0 from rfl] at hx128_2); (try rw [show 0 * 18 = 0 from rfl] at hx128_2); (try rw [Addr.add_zero'] at hx128_2); (try rw [show ((0 : Int)).toNat = 0 from rfl] at hx128_3); (try rw [show 0 * 18 = 0 from rfl] at hx128_3); (try rw [Addr.add_zero'] at hx128_3); (try rw [show ((0 : Int)).toNat = 0 from rfl] at hx128_4); (try rw [show 0 * 18 = 0 from rfl] at hx128_4); (try rw [Addr.add_zero'] at hx128_4); (try rw [show ((0 : Int)).toNat = 0 from rfl] at hx128_5); (try rw [show 0 * 18 = 0 from rfl] at hx128_5); (try rw [Addr.add_zero'] at hx128_5); (try rw [show ((0 : Int)).toNat = 0 from rfl] at hx128_6); (try rw [show 0 * 18 = 0 from rfl] at hx128_6); (try rw [Addr.add_zero'] at hx128_6); (try rw [show ((0 : Int)).toNat = 0 from rfl] at hx128_7); (try rw [show 0 * 18 = 0 from rfl] at hx128_7); (try rw [Addr.add_zero'] at hx128_7); (try rw [show ((0 : Int)).toNat = 0 from rfl] at hx128_8); (try rw [show 0 * 18 = 0 from rfl] at hx128_8); (try rw [Addr.add_zero'] at hx128_8); (try rw [show ((0 : Int)).toNat = 0 from rfl] at hx128_9); (try rw [show 0 * 18 = 0 from rfl] at hx128_9); (try rw [Addr.add_zero'] at hx128_9); (try rw [show ((0 : Int)).toNat = 0 from rfl] at hx128_10); (try rw [show 0 * 18 = 0 from rfl] at hx128_10); (try rw [Addr.add_zero'] at hx128_10); (try rw [show ((0 : Int)).toNat = 0 from rfl] at hx128_11); (try rw [show 0 * 18 = 0 from rfl] at hx128_11); (try rw [Addr.add_zero'] at hx128_11); (try rw [show ((0 : Int)).toNat = 0 from rfl] at hx128_12); (try rw [show 0 * 18 = 0 from rfl] at hx128_12); (try rw [Addr.add_zero'] at hx128_12); (try rw [show ((0 : Int)).toNat = 0 from rfl] at hx128_13); (try rw [show 0 * 18 = 0 from rfl] at hx128_13); (try rw [Addr.add_zero'] at hx128_13); (try rw [show ((0 : Int)).toNat = 0 from rfl] at hx128_14); (try rw [show 0 * 18 = 0 from rfl] at hx128_14); (try rw [Addr.add_zero'] at hx128_14); (try rw [show ((0 : Int)).toNat = 0 from rfl] at hx128_15); (try rw [show 0 * 18 = 0 from rfl] at hx128_15); (try rw [Addr.add_zero'] at hx128_15); (try rw [show ((0 : Int)).toNat = 0 from rfl] at hx128_16); (try rw [show 0 * 18 = 0 from rfl] at hx128_16); (try rw [Addr.add_zero'] at hx128_16); (try rw [show ((0 : Int)).toNat = 0 from rfl] at hx128_17); (try rw [show 0 * 18 = 0 from rfl] at hx128_17); (try rw [Addr.add_zero'] at hx128_17); replace p128 := eq_true p128; replace q128 := eq_true q128) | (go_at_call 12; (with_reducible refine (chunk_Take.calls g110 t125 t126 t127 ((rd_T42 t104 0).f0) ((rd_T42 t104 0).f1) ((rd_T42 t104 0).f2) ((rd_T42 t104 0).f3) ((rd_T42 t104 0).f4) ((rd_T42 t104 0).f5) ((rd_T42 t104 0).f6.f0.f0) ((rd_T42 t104 0).f6.f0.f1.f0) ((rd_T42 t104 0).f6.f0.f1.f1) ((rd_T42 t104 0).f6.f0.f2) ((rd_T42 t104 0).f6.f1) ((rd_T42 t104 0).f7.f0) ((rd_T42 t104 0).f7.f1.f0) ((rd_T42 t104 0).f7.f1.f1) ((rd_T42 t104 0).f7.f2) ((rd_T42 t104 0).f8) ((rd_T42 t104 0).f9) ((rd_T42 t104 0).f10) true t130 t131 t132 w _ ?side1 ?side2 A27.out).mono ?_); (case side1 => repeat (first | (with_reducible first | exact HI110.out | apply IsS65.alloc | apply IsS65.drewN | apply IsS65.drew | apply IsS65.set_0 | apply IsS65.set_1 | apply IsS65.set_2) | exact HI110.out)); (case side2 => repeat (first | (with_reducible first | exact HB.out | apply below_alloc | apply pw_below_drewN | apply below_drew1 | refine below_set ?_ (IsS65.ge HI110.out)) | exact HB.out)); rintro e w33 ⟨rfl, hi, hb, hk⟩; have n0_ := Aside0.mk (Kd.R_mono (Kd.R_keep (IsS65.apart (show IsS65 w _ g110 t125 t126 t127 from by repeat (first | (with_reducible first | exact HI110.out | apply IsS65.alloc | apply IsS65.drewN | apply IsS65.drew | apply IsS65.set_0 | apply IsS65.set_1 | apply IsS65.set_2) | exact HI110.out)) (by (with_reducible repeat (first | apply Kd.R_alloc | apply Kd.R_drewN | apply Kd.R_drew)); exact HO_1.out) (by decide)) hk (fun _ h => h.2)) (fun _ h => h.1)); have n1_ := Aside0.mk (hb); have n2_ := Aside0.mk (hi); clear HO_1; clear HB; clear HI110; have HO_1 := n0_; have HB := n1_; have HI110 := n2_; clear n0_ n1_ n2_; (try clear hb); (try clear hb2); (try clear hk); (try clear hi)))
                    go_ret
                    exact ⟨by first | rfl | (simp [errW_none, errW_some] <;> rfl) | (simp [*, errW_none, errW_some] <;> rfl), by repeat (first | (with_reducible first | exact HB.out | apply below_alloc | apply pw_below_drewN | apply below_drew1 | refine below_set ?_ (IsS65.ge HI110.out)) | exact HB.out)⟩
                  · replace c28 := Bool.eq_false_iff.mpr c28
                    subst c28
                    have H1 : ((chunk_Items.f kj2 1 (⟨#[]⟩ : ByteArray)).bind fun t133 => (some ((t133.length : Int) == 1))) = some r := by first | (rw [if_neg (show ¬ (false = true) by decide)] at H; done) | (rw [if_neg (show ¬ (false = true) by decide)] at H; exact H)
                    clear H
                    have H := H1
                    clear H1
                    replace H := Option.bind_eq_some_iff.mp H
                    obtain ⟨t133, A340, H⟩ := H
                    replace H : (some ((t133.length : Int) == 1)) = some r := H
                    have A34 := Aside0.mk A340
                    clear A340
                    obtain rfl := Option.some.inj H
                    go_wp2_with (first | ((with_reducible refine gate_dst (N := 39) rfl ?_); refine load_event rfl (.tmp 38) 42 rfl rfl (load42_0 (Kd.R_reads' HO_1.out).2.2 (of_decide_eq_true (by first | (with_reducible assumption) | assumption))) ?_; simp only [v42]) | ((with_reducible refine gate_dst (N := 62) rfl ?_); refine gate_guard (by first | rfl | kernel_rfl) ?_; refine load_event rfl (.tmp 61) 42 rfl rfl (load42_0 (Kd.R_reads' HO_1.out).2.2 (of_decide_eq_true (by first | (with_reducible assumption) | assumption))) ?_; simp only [v42]) | ((with_reducible refine gate_callee (f := 13) rfl ?_); refine goesL_ (some 33) rfl rfl Try.func13 (by kernel_rfl) rfl #[.pointer (some ⟨g110, 0, none⟩)] rfl (by (try simp only [List.map_toArray, List.map_cons, List.map_nil]); first | done | rfl | (simp only [List.length_drop, List.length_take]; rfl)) ?_; (with_reducible refine (chunk_Whole.calls g110 t107 t108 t109 t113 false t115 t116 t117 w _ ?side1 ?side2 A15.out).mono ?_); (case side1 => repeat (first | (with_reducible first | exact HI110.out | apply IsS65.alloc | apply IsS65.drewN | apply IsS65.drew | apply IsS65.set_0 | apply IsS65.set_1 | apply IsS65.set_2) | exact HI110.out)); (case side2 => repeat (first | (with_reducible first | exact HB.out | apply below_alloc | apply pw_below_drewN | apply below_drew1 | refine below_set ?_ (IsS65.ge HI110.out)) | exact HB.out)); rintro e w35 ⟨rfl, hi, hb, hk⟩; refine ⟨_, rfl, ?_⟩; have n0_ := Aside0.mk (Kd.R_mono (Kd.R_keep (IsS65.apart (show IsS65 w _ g110 t107 t108 t109 from by repeat (first | (with_reducible first | exact HI110.out | apply IsS65.alloc | apply IsS65.drewN | apply IsS65.drew | apply IsS65.set_0 | apply IsS65.set_1 | apply IsS65.set_2) | exact HI110.out)) (by (with_reducible repeat (first | apply Kd.R_alloc | apply Kd.R_drewN | apply Kd.R_drew)); exact HO_1.out) (by decide)) hk (fun _ h => h.2)) (fun _ h => h.1)); have n1_ := Aside0.mk (hb); have n2_ := Aside0.mk (hi); clear HO_1; clear HB; clear HI110; have HO_1 := n0_; have HB := n1_; have HI110 := n2_; clear n0_ n1_ n2_; (try clear hb); (try clear hb2); (try clear hk); (try clear hi); obtain ⟨Ao36, co36, eo36⟩ := Kd.R_slice HO_1.out; subst eo36; have p118 : 0 ≤ (0 : Int) := (by omega); have q118 : 0 < (t104.length : Int) := of_decide_eq_true (by first | (with_reducible assumption) | assumption); obtain ⟨ad118, e118, hx118_0, hx118_1, hx118_2, hx118_3, hx118_4, hx118_5, hx118_6, hx118_7, hx118_8, hx118_9, hx118_10, hx118_11, hx118_12, hx118_13, hx118_14, hx118_15, hx118_16, hx118_17⟩ := at_T42 (Kd.R_reads' HO_1.out).2.2 0 p118 q118; cases e118; have qi118 : (0 < t104.length) = True := eq_true (by omega); (try rw [show ((0 : Int)).toNat = 0 from rfl] at hx118_0); (try rw [show 0 * 18 = 0 from rfl] at hx118_0); (try rw [Addr.add_zero'] at hx118_0); (try rw [show ((0 : Int)).toNat = 0 from rfl] at hx118_1); (try rw [show 0 * 18 = 0 from rfl] at hx118_1); (try rw [Addr.add_zero'] at hx118_1); (try rw [show ((0 : Int)).toNat = 0 from rfl] at hx118_2); (try rw [show 0 * 18 = 0 from rfl] at hx118_2); (try rw [Addr.add_zero'] at hx118_2); (try rw [show ((0 : Int)).toNat = 0 from rfl] at hx118_3); (try rw [show 0 * 18 = 0 from rfl] at hx118_3); (try rw [Addr.add_zero'] at hx118_3); (try rw [show ((0 : Int)).toNat = 0 from rfl] at hx118_4); (try rw [show 0 * 18 = 0 from rfl] at hx118_4); (try rw [Addr.add_zero'] at hx118_4); (try rw [show ((0 : Int)).toNat = 0 from rfl] at hx118_5); (try rw [show 0 * 18 = 0 from rfl] at hx118_5); (try rw [Addr.add_zero'] at hx118_5); (try rw [show ((0 : Int)).toNat = 0 from rfl] at hx118_6); (try rw [show 0 * 18 = 0 from rfl] at hx118_6); (try rw [Addr.add_zero'] at hx118_6); (try rw [show ((0 : Int)).toNat = 0 from rfl] at hx118_7); (try rw [show 0 * 18 = 0 from rfl] at hx118_7); (try rw [Addr.add_zero'] at hx118_7); (try rw [show ((0 : Int)).toNat = 0 from rfl] at hx118_8); (try rw [show 0 * 18 = 0 from rfl] at hx118_8); (try rw [Addr.add_zero'] at hx118_8); (try rw [show ((0 : Int)).toNat = 0 from rfl] at hx118_9); (try rw [show 0 * 18 = 0 from rfl] at hx118_9); (try rw [Addr.add_zero'] at hx118_9); (try rw [show ((0 : Int)).toNat = 0 from rfl] at hx118_10); (try rw [show 0 * 18 = 0 from rfl] at hx118_10); (try rw [Addr.add_zero'] at hx118_10); (try rw [show ((0 : Int)).toNat = 0 from rfl] at hx118_11); (try rw [show 0 * 18 = 0 from rfl] at hx118_11); (try rw [Addr.add_zero'] at hx118_11); (try rw [show ((0 : Int)).toNat = 0 from rfl] at hx118_12); (try rw [show 0 * 18 = 0 from rfl] at hx118_12); (try rw [Addr.add_zero'] at hx118_12); (try rw [show ((0 : Int)).toNat = 0 from rfl] at hx118_13); (try rw [show 0 * 18 = 0 from rfl] at hx118_13); (try rw [Addr.add_zero'] at hx118_13); (try rw [show ((0 : Int)).toNat = 0 from rfl] at hx118_14); (try rw [show 0 * 18 = 0 from rfl] at hx118_14); (try rw [Addr.add_zero'] at hx118_14); (try rw [show ((0 : Int)).toNat = 0 from rfl] at hx118_15); (try rw [show 0 * 18 = 0 from rfl] at hx118_15); (try rw [Addr.add_zero'] at hx118_15); (try rw [show ((0 : Int)).toNat = 0 from rfl] at hx118_16); (try rw [show 0 * 18 = 0 from rfl] at hx118_16); (try rw [Addr.add_zero'] at hx118_16); (try rw [show ((0 : Int)).toNat = 0 from rfl] at hx118_17); (try rw [show 0 * 18 = 0 from rfl] at hx118_17); (try rw [Addr.add_zero'] at hx118_17); replace p118 := eq_true p118; replace q118 := eq_true q118) | ((with_reducible refine gate_callee (f := 12) rfl ?_); refine goesL_ (some 40) rfl rfl Try.func12 (by kernel_rfl) rfl #[.pointer (some ⟨g110, 0, none⟩), .agg #[.int .i64 ((rd_T42 t104 0).f0), .string ((rd_T42 t104 0).f1), .int .u32 ((rd_T42 t104 0).f2), .int .u64 ((rd_T42 t104 0).f3), .bool ((rd_T42 t104 0).f4), .bool ((rd_T42 t104 0).f5), .int .u64 ((rd_T42 t104 0).f6.f0.f0), .int .u64 ((rd_T42 t104 0).f6.f0.f1.f0), .int .i64 ((rd_T42 t104 0).f6.f0.f1.f1), .int .u64 ((rd_T42 t104 0).f6.f0.f2), .slice ((rd_T42 t104 0).f6.f1).A ((rd_T42 t104 0).f6.f1).n ((rd_T42 t104 0).f6.f1).c, .int .u64 ((rd_T42 t104 0).f7.f0), .int .u64 ((rd_T42 t104 0).f7.f1.f0), .int .i64 ((rd_T42 t104 0).f7.f1.f1), .int .u64 ((rd_T42 t104 0).f7.f2), .int .u64 ((rd_T42 t104 0).f8), .int .i64 ((rd_T42 t104 0).f9), .int .i64 ((rd_T42 t104 0).f10)]] rfl (by (try simp only [List.map_toArray, List.map_cons, List.map_nil]); first | done | rfl | (simp only [List.length_drop, List.length_take]; rfl)) ?_; (with_reducible refine (chunk_Take.calls g110 t115 t116 t117 ((rd_T42 t104 0).f0) ((rd_T42 t104 0).f1) ((rd_T42 t104 0).f2) ((rd_T42 t104 0).f3) ((rd_T42 t104 0).f4) ((rd_T42 t104 0).f5) ((rd_T42 t104 0).f6.f0.f0) ((rd_T42 t104 0).f6.f0.f1.f0) ((rd_T42 t104 0).f6.f0.f1.f1) ((rd_T42 t104 0).f6.f0.f2) ((rd_T42 t104 0).f6.f1) ((rd_T42 t104 0).f7.f0) ((rd_T42 t104 0).f7.f1.f0) ((rd_T42 t104 0).f7.f1.f1) ((rd_T42 t104 0).f7.f2) ((rd_T42 t104 0).f8) ((rd_T42 t104 0).f9) ((rd_T42 t104 0).f10) true t120 t121 t122 w _ ?side1 ?side2 A17.out).mono ?_); (case side1 => repeat (first | (with_reducible first | exact HI110.out | apply IsS65.alloc | apply IsS65.drewN | apply IsS65.drew | apply IsS65.set_0 | apply IsS65.set_1 | apply IsS65.set_2) | exact HI110.out)); (case side2 => repeat (first | (with_reducible first | exact HB.out | apply below_alloc | apply pw_below_drewN | apply below_drew1 | refine below_set ?_ (IsS65.ge HI110.out)) | exact HB.out)); rintro e w37 ⟨rfl, hi, hb, hk⟩; refine ⟨_, rfl, ?_⟩; have n0_ := Aside0.mk (Kd.R_mono (Kd.R_keep (IsS65.apart (show IsS65 w _ g110 t115 t116 t117 from by repeat (first | (with_reducible first | exact HI110.out | apply IsS65.alloc | apply IsS65.drewN | apply IsS65.drew | apply IsS65.set_0 | apply IsS65.set_1 | apply IsS65.set_2) | exact HI110.out)) (by (with_reducible repeat (first | apply Kd.R_alloc | apply Kd.R_drewN | apply Kd.R_drew)); exact HO_1.out) (by decide)) hk (fun _ h => h.2)) (fun _ h => h.1)); have n1_ := Aside0.mk (hb); have n2_ := Aside0.mk (hi); clear HO_1; clear HB; clear HI110; have HO_1 := n0_; have HB := n1_; have HI110 := n2_; clear n0_ n1_ n2_; (try clear hb); (try clear hb2); (try clear hk); (try clear hi)) | ((with_reducible refine gate_callee (f := 13) rfl ?_); refine goesL_ (some 43) rfl rfl Try.func13 (by kernel_rfl) rfl #[.pointer (some ⟨g110, 0, none⟩)] rfl (by (try simp only [List.map_toArray, List.map_cons, List.map_nil]); first | done | rfl | (simp only [List.length_drop, List.length_take]; rfl)) ?_; (with_reducible refine (chunk_Whole.calls g110 t120 t121 t122 t123 true t125 t126 t127 w _ ?side1 ?side2 A18.out).mono ?_); (case side1 => repeat (first | (with_reducible first | exact HI110.out | apply IsS65.alloc | apply IsS65.drewN | apply IsS65.drew | apply IsS65.set_0 | apply IsS65.set_1 | apply IsS65.set_2) | exact HI110.out)); (case side2 => repeat (first | (with_reducible first | exact HB.out | apply below_alloc | apply pw_below_drewN | apply below_drew1 | refine below_set ?_ (IsS65.ge HI110.out)) | exact HB.out)); rintro e w38 ⟨rfl, hi, hb, hk⟩; refine ⟨_, rfl, ?_⟩; have n0_ := Aside0.mk (Kd.R_mono (Kd.R_keep (IsS65.apart (show IsS65 w _ g110 t120 t121 t122 from by repeat (first | (with_reducible first | exact HI110.out | apply IsS65.alloc | apply IsS65.drewN | apply IsS65.drew | apply IsS65.set_0 | apply IsS65.set_1 | apply IsS65.set_2) | exact HI110.out)) (by (with_reducible repeat (first | apply Kd.R_alloc | apply Kd.R_drewN | apply Kd.R_drew)); exact HO_1.out) (by decide)) hk (fun _ h => h.2)) (fun _ h => h.1)); have n1_ := Aside0.mk (hb); have n2_ := Aside0.mk (hi); clear HO_1; clear HB; clear HI110; have HO_1 := n0_; have HB := n1_; have HI110 := n2_; clear n0_ n1_ n2_; (try clear hb); (try clear hb2); (try clear hk); (try clear hi); have p128 : 0 ≤ (0 : Int) := (by omega); have q128 : 0 < (t104.length : Int) := of_decide_eq_true (by first | (with_reducible assumption) | assumption); obtain ⟨ad128, e128, hx128_0, hx128_1, hx128_2, hx128_3, hx128_4, hx128_5, hx128_6, hx128_7, hx128_8, hx128_9, hx128_10, hx128_11, hx128_12, hx128_13, hx128_14, hx128_15, hx128_16, hx128_17⟩ := at_T42 (Kd.R_reads' HO_1.out).2.2 0 p128 q128; obtain rfl : ad118 = ad128 := (by injection e128); have qi128 : (0 < t104.length) = True := eq_true (by omega); (try rw [show ((0 : Int)).toNat = 0 from rfl] at hx128_0); (try rw [show 0 * 18 = 0 from rfl] at hx128_0); (try rw [Addr.add_zero'] at hx128_0); (try rw [show ((0 : Int)).toNat = 0 from rfl] at hx128_1); (try rw [show 0 * 18 = 0 from rfl] at hx128_1); (try rw [Addr.add_zero'] at hx128_1); (try rw [show ((0 : Int)).toNat = 0 from rfl] at hx128_2); (try rw [show 0 * 18 = 0 from rfl] at hx128_2); (try rw [Addr.add_zero'] at hx128_2); (try rw [show ((0 : Int)).toNat = 0 from rfl] at hx128_3); (try rw [show 0 * 18 = 0 from rfl] at hx128_3); (try rw [Addr.add_zero'] at hx128_3); (try rw [show ((0 : Int)).toNat = 0 from rfl] at hx128_4); (try rw [show 0 * 18 = 0 from rfl] at hx128_4); (try rw [Addr.add_zero'] at hx128_4); (try rw [show ((0 : Int)).toNat = 0 from rfl] at hx128_5); (try rw [show 0 * 18 = 0 from rfl] at hx128_5); (try rw [Addr.add_zero'] at hx128_5); (try rw [show ((0 : Int)).toNat = 0 from rfl] at hx128_6); (try rw [show 0 * 18 = 0 from rfl] at hx128_6); (try rw [Addr.add_zero'] at hx128_6); (try rw [show ((0 : Int)).toNat = 0 from rfl] at hx128_7); (try rw [show 0 * 18 = 0 from rfl] at hx128_7); (try rw [Addr.add_zero'] at hx128_7); (try rw [show ((0 : Int)).toNat = 0 from rfl] at hx128_8); (try rw [show 0 * 18 = 0 from rfl] at hx128_8); (try rw [Addr.add_zero'] at hx128_8); (try rw [show ((0 : Int)).toNat = 0 from rfl] at hx128_9); (try rw [show 0 * 18 = 0 from rfl] at hx128_9); (try rw [Addr.add_zero'] at hx128_9); (try rw [show ((0 : Int)).toNat = 0 from rfl] at hx128_10); (try rw [show 0 * 18 = 0 from rfl] at hx128_10); (try rw [Addr.add_zero'] at hx128_10); (try rw [show ((0 : Int)).toNat = 0 from rfl] at hx128_11); (try rw [show 0 * 18 = 0 from rfl] at hx128_11); (try rw [Addr.add_zero'] at hx128_11); (try rw [show ((0 : Int)).toNat = 0 from rfl] at hx128_12); (try rw [show 0 * 18 = 0 from rfl] at hx128_12); (try rw [Addr.add_zero'] at hx128_12); (try rw [show ((0 : Int)).toNat = 0 from rfl] at hx128_13); (try rw [show 0 * 18 = 0 from rfl] at hx128_13); (try rw [Addr.add_zero'] at hx128_13); (try rw [show ((0 : Int)).toNat = 0 from rfl] at hx128_14); (try rw [show 0 * 18 = 0 from rfl] at hx128_14); (try rw [Addr.add_zero'] at hx128_14); (try rw [show ((0 : Int)).toNat = 0 from rfl] at hx128_15); (try rw [show 0 * 18 = 0 from rfl] at hx128_15); (try rw [Addr.add_zero'] at hx128_15); (try rw [show ((0 : Int)).toNat = 0 from rfl] at hx128_16); (try rw [show 0 * 18 = 0 from rfl] at hx128_16); (try rw [Addr.add_zero'] at hx128_16); (try rw [show ((0 : Int)).toNat = 0 from rfl] at hx128_17); (try rw [show 0 * 18 = 0 from rfl] at hx128_17); (try rw [Addr.add_zero'] at hx128_17); replace p128 := eq_true p128; replace q128 := eq_true q128) | (go_at_call 12; (with_reducible refine (chunk_Take.calls g110 t125 t126 t127 ((rd_T42 t104 0).f0) ((rd_T42 t104 0).f1) ((rd_T42 t104 0).f2) ((rd_T42 t104 0).f3) ((rd_T42 t104 0).f4) ((rd_T42 t104 0).f5) ((rd_T42 t104 0).f6.f0.f0) ((rd_T42 t104 0).f6.f0.f1.f0) ((rd_T42 t104 0).f6.f0.f1.f1) ((rd_T42 t104 0).f6.f0.f2) ((rd_T42 t104 0).f6.f1) ((rd_T42 t104 0).f7.f0) ((rd_T42 t104 0).f7.f1.f0) ((rd_T42 t104 0).f7.f1.f1) ((rd_T42 t104 0).f7.f2) ((rd_T42 t104 0).f8) ((rd_T42 t104 0).f9) ((rd_T42 t104 0).f10) false t130 t131 t132 w _ ?side1 ?side2 A27.out).mono ?_); (case side1 => repeat (first | (with_reducible first | exact HI110.out | apply IsS65.alloc | apply IsS65.drewN | apply IsS65.drew | apply IsS65.set_0 | apply IsS65.set_1 | apply IsS65.set_2) | exact HI110.out)); (case side2 => repeat (first | (with_reducible first | exact HB.out | apply below_alloc | apply pw_below_drewN | apply below_drew1 | refine below_set ?_ (IsS65.ge HI110.out)) | exact HB.out)); rintro e w39 ⟨rfl, hi, hb, hk⟩; have n0_ := Aside0.mk (Kd.R_mono (Kd.R_keep (IsS65.apart (show IsS65 w _ g110 t125 t126 t127 from by repeat (first | (with_reducible first | exact HI110.out | apply IsS65.alloc | apply IsS65.drewN | apply IsS65.drew | apply IsS65.set_0 | apply IsS65.set_1 | apply IsS65.set_2) | exact HI110.out)) (by (with_reducible repeat (first | apply Kd.R_alloc | apply Kd.R_drewN | apply Kd.R_drew)); exact HO_1.out) (by decide)) hk (fun _ h => h.2)) (fun _ h => h.1)); have n1_ := Aside0.mk (hb); have n2_ := Aside0.mk (hi); clear HO_1; clear HB; clear HI110; have HO_1 := n0_; have HB := n1_; have HI110 := n2_; clear n0_ n1_ n2_; (try clear hb); (try clear hb2); (try clear hk); (try clear hi)) | (go_at_call 7; (with_reducible refine (chunk_Items.calls kj2 1 (⟨#[]⟩ : ByteArray) t133 _ A34.out).mono ?_); rintro e w40 ⟨v134, rfl, ho0, hb⟩; have n0_ := Aside0.mk (Kd.R_elder' (by (with_reducible repeat (first | apply Kd.R_alloc | apply Kd.R_drewN | apply Kd.R_drew)); exact HO_1.out) (Kd.R_base ho0) hb); have n1_ := Aside0.mk (Kd.R_lower (Kd.R_new' ho0 (Kd.R_lt (by (with_reducible repeat (first | apply Kd.R_alloc | apply Kd.R_drewN | apply Kd.R_drew)); exact HO_1.out))) (below_size (by repeat (first | (with_reducible first | exact HB.out | apply below_alloc | apply pw_below_drewN | apply below_drew1 | refine below_set ?_ (IsS65.ge HI110.out)) | exact HB.out)))); have n2_ := Aside0.mk (IsS65.below (by repeat (first | (with_reducible first | exact HI110.out | apply IsS65.alloc | apply IsS65.drewN | apply IsS65.drew | apply IsS65.set_0 | apply IsS65.set_1 | apply IsS65.set_2) | exact HI110.out)) hb); have n3_ := Aside0.mk (below_step (by repeat (first | (with_reducible first | exact HB.out | apply below_alloc | apply pw_below_drewN | apply below_drew1 | refine below_set ?_ (IsS65.ge HI110.out)) | exact HB.out)) hb); clear HO_1; clear HI110; clear HB; have HO_1 := n0_; have HO135 := n1_; have HI110 := n2_; have HB := n3_; clear n0_ n1_ n2_ n3_; (try clear hb); (try clear hb2); (try clear hk); (try clear hi); (try clear ho0); obtain ⟨Ao41, co41, eo41⟩ := Kd.R_slice HO135.out; subst eo41))
                    go_ret
                    exact ⟨by first | rfl | (simp [errW_none, errW_some] <;> rfl) | (simp [*, errW_none, errW_some] <;> rfl), by repeat (first | (with_reducible first | exact HB.out | apply below_alloc | apply pw_below_drewN | apply below_drew1 | refine below_set ?_ (IsS65.ge HI110.out)) | exact HB.out)⟩
                · replace c26 := Bool.eq_false_iff.mpr c26
                  subst c26
                  have H1 : (some false) = some r := by first | (rw [if_neg (show ¬ (false = true) by decide)] at H; done) | (rw [if_neg (show ¬ (false = true) by decide)] at H; exact H)
                  clear H
                  have H := H1
                  clear H1
                  obtain rfl := Option.some.inj H
                  go_wp2_with (first | ((with_reducible refine gate_dst (N := 39) rfl ?_); refine load_event rfl (.tmp 38) 42 rfl rfl (load42_0 (Kd.R_reads' HO_1.out).2.2 (of_decide_eq_true (by first | (with_reducible assumption) | assumption))) ?_; simp only [v42]) | ((with_reducible refine gate_dst (N := 62) rfl ?_); refine gate_guard (by first | rfl | kernel_rfl) ?_; refine load_event rfl (.tmp 61) 42 rfl rfl (load42_0 (Kd.R_reads' HO_1.out).2.2 (of_decide_eq_true (by first | (with_reducible assumption) | assumption))) ?_; simp only [v42]) | ((with_reducible refine gate_callee (f := 13) rfl ?_); refine goesL_ (some 33) rfl rfl Try.func13 (by kernel_rfl) rfl #[.pointer (some ⟨g110, 0, none⟩)] rfl (by (try simp only [List.map_toArray, List.map_cons, List.map_nil]); first | done | rfl | (simp only [List.length_drop, List.length_take]; rfl)) ?_; (with_reducible refine (chunk_Whole.calls g110 t107 t108 t109 t113 false t115 t116 t117 w _ ?side1 ?side2 A15.out).mono ?_); (case side1 => repeat (first | (with_reducible first | exact HI110.out | apply IsS65.alloc | apply IsS65.drewN | apply IsS65.drew | apply IsS65.set_0 | apply IsS65.set_1 | apply IsS65.set_2) | exact HI110.out)); (case side2 => repeat (first | (with_reducible first | exact HB.out | apply below_alloc | apply pw_below_drewN | apply below_drew1 | refine below_set ?_ (IsS65.ge HI110.out)) | exact HB.out)); rintro e w42 ⟨rfl, hi, hb, hk⟩; refine ⟨_, rfl, ?_⟩; have n0_ := Aside0.mk (Kd.R_mono (Kd.R_keep (IsS65.apart (show IsS65 w _ g110 t107 t108 t109 from by repeat (first | (with_reducible first | exact HI110.out | apply IsS65.alloc | apply IsS65.drewN | apply IsS65.drew | apply IsS65.set_0 | apply IsS65.set_1 | apply IsS65.set_2) | exact HI110.out)) (by (with_reducible repeat (first | apply Kd.R_alloc | apply Kd.R_drewN | apply Kd.R_drew)); exact HO_1.out) (by decide)) hk (fun _ h => h.2)) (fun _ h => h.1)); have n1_ := Aside0.mk (hb); have n2_ := Aside0.mk (hi); clear HO_1; clear HB; clear HI110; have HO_1 := n0_; have HB := n1_; have HI110 := n2_; clear n0_ n1_ n2_; (try clear hb); (try clear hb2); (try clear hk); (try clear hi); obtain ⟨Ao43, co43, eo43⟩ := Kd.R_slice HO_1.out; subst eo43; have p118 : 0 ≤ (0 : Int) := (by omega); have q118 : 0 < (t104.length : Int) := of_decide_eq_true (by first | (with_reducible assumption) | assumption); obtain ⟨ad118, e118, hx118_0, hx118_1, hx118_2, hx118_3, hx118_4, hx118_5, hx118_6, hx118_7, hx118_8, hx118_9, hx118_10, hx118_11, hx118_12, hx118_13, hx118_14, hx118_15, hx118_16, hx118_17⟩ := at_T42 (Kd.R_reads' HO_1.out).2.2 0 p118 q118; cases e118; have qi118 : (0 < t104.length) = True := eq_true (by omega); (try rw [show ((0 : Int)).toNat = 0 from rfl] at hx118_0); (try rw [show 0 * 18 = 0 from rfl] at hx118_0); (try rw [Addr.add_zero'] at hx118_0); (try rw [show ((0 : Int)).toNat = 0 from rfl] at hx118_1); (try rw [show 0 * 18 = 0 from rfl] at hx118_1); (try rw [Addr.add_zero'] at hx118_1); (try rw [show ((0 : Int)).toNat = 0 from rfl] at hx118_2); (try rw [show 0 * 18 = 0 from rfl] at hx118_2); (try rw [Addr.add_zero'] at hx118_2); (try rw [show ((0 : Int)).toNat = 0 from rfl] at hx118_3); (try rw [show 0 * 18 = 0 from rfl] at hx118_3); (try rw [Addr.add_zero'] at hx118_3); (try rw [show ((0 : Int)).toNat = 0 from rfl] at hx118_4); (try rw [show 0 * 18 = 0 from rfl] at hx118_4); (try rw [Addr.add_zero'] at hx118_4); (try rw [show ((0 : Int)).toNat = 0 from rfl] at hx118_5); (try rw [show 0 * 18 = 0 from rfl] at hx118_5); (try rw [Addr.add_zero'] at hx118_5); (try rw [show ((0 : Int)).toNat = 0 from rfl] at hx118_6); (try rw [show 0 * 18 = 0 from rfl] at hx118_6); (try rw [Addr.add_zero'] at hx118_6); (try rw [show ((0 : Int)).toNat = 0 from rfl] at hx118_7); (try rw [show 0 * 18 = 0 from rfl] at hx118_7); (try rw [Addr.add_zero'] at hx118_7); (try rw [show ((0 : Int)).toNat = 0 from rfl] at hx118_8); (try rw [show 0 * 18 = 0 from rfl] at hx118_8); (try rw [Addr.add_zero'] at hx118_8); (try rw [show ((0 : Int)).toNat = 0 from rfl] at hx118_9); (try rw [show 0 * 18 = 0 from rfl] at hx118_9); (try rw [Addr.add_zero'] at hx118_9); (try rw [show ((0 : Int)).toNat = 0 from rfl] at hx118_10); (try rw [show 0 * 18 = 0 from rfl] at hx118_10); (try rw [Addr.add_zero'] at hx118_10); (try rw [show ((0 : Int)).toNat = 0 from rfl] at hx118_11); (try rw [show 0 * 18 = 0 from rfl] at hx118_11); (try rw [Addr.add_zero'] at hx118_11); (try rw [show ((0 : Int)).toNat = 0 from rfl] at hx118_12); (try rw [show 0 * 18 = 0 from rfl] at hx118_12); (try rw [Addr.add_zero'] at hx118_12); (try rw [show ((0 : Int)).toNat = 0 from rfl] at hx118_13); (try rw [show 0 * 18 = 0 from rfl] at hx118_13); (try rw [Addr.add_zero'] at hx118_13); (try rw [show ((0 : Int)).toNat = 0 from rfl] at hx118_14); (try rw [show 0 * 18 = 0 from rfl] at hx118_14); (try rw [Addr.add_zero'] at hx118_14); (try rw [show ((0 : Int)).toNat = 0 from rfl] at hx118_15); (try rw [show 0 * 18 = 0 from rfl] at hx118_15); (try rw [Addr.add_zero'] at hx118_15); (try rw [show ((0 : Int)).toNat = 0 from rfl] at hx118_16); (try rw [show 0 * 18 = 0 from rfl] at hx118_16); (try rw [Addr.add_zero'] at hx118_16); (try rw [show ((0 : Int)).toNat = 0 from rfl] at hx118_17); (try rw [show 0 * 18 = 0 from rfl] at hx118_17); (try rw [Addr.add_zero'] at hx118_17); replace p118 := eq_true p118; replace q118 := eq_true q118) | ((with_reducible refine gate_callee (f := 12) rfl ?_); refine goesL_ (some 40) rfl rfl Try.func12 (by kernel_rfl) rfl #[.pointer (some ⟨g110, 0, none⟩), .agg #[.int .i64 ((rd_T42 t104 0).f0), .string ((rd_T42 t104 0).f1), .int .u32 ((rd_T42 t104 0).f2), .int .u64 ((rd_T42 t104 0).f3), .bool ((rd_T42 t104 0).f4), .bool ((rd_T42 t104 0).f5), .int .u64 ((rd_T42 t104 0).f6.f0.f0), .int .u64 ((rd_T42 t104 0).f6.f0.f1.f0), .int .i64 ((rd_T42 t104 0).f6.f0.f1.f1), .int .u64 ((rd_T42 t104 0).f6.f0.f2), .slice ((rd_T42 t104 0).f6.f1).A ((rd_T42 t104 0).f6.f1).n ((rd_T42 t104 0).f6.f1).c, .int .u64 ((rd_T42 t104 0).f7.f0), .int .u64 ((rd_T42 t104 0).f7.f1.f0), .int .i64 ((rd_T42 t104 0).f7.f1.f1), .int .u64 ((rd_T42 t104 0).f7.f2), .int .u64 ((rd_T42 t104 0).f8), .int .i64 ((rd_T42 t104 0).f9), .int .i64 ((rd_T42 t104 0).f10)]] rfl (by (try simp only [List.map_toArray, List.map_cons, List.map_nil]); first | done | rfl | (simp only [List.length_drop, List.length_take]; rfl)) ?_; (with_reducible refine (chunk_Take.calls g110 t115 t116 t117 ((rd_T42 t104 0).f0) ((rd_T42 t104 0).f1) ((rd_T42 t104 0).f2) ((rd_T42 t104 0).f3) ((rd_T42 t104 0).f4) ((rd_T42 t104 0).f5) ((rd_T42 t104 0).f6.f0.f0) ((rd_T42 t104 0).f6.f0.f1.f0) ((rd_T42 t104 0).f6.f0.f1.f1) ((rd_T42 t104 0).f6.f0.f2) ((rd_T42 t104 0).f6.f1) ((rd_T42 t104 0).f7.f0) ((rd_T42 t104 0).f7.f1.f0) ((rd_T42 t104 0).f7.f1.f1) ((rd_T42 t104 0).f7.f2) ((rd_T42 t104 0).f8) ((rd_T42 t104 0).f9) ((rd_T42 t104 0).f10) true t120 t121 t122 w _ ?side1 ?side2 A17.out).mono ?_); (case side1 => repeat (first | (with_reducible first | exact HI110.out | apply IsS65.alloc | apply IsS65.drewN | apply IsS65.drew | apply IsS65.set_0 | apply IsS65.set_1 | apply IsS65.set_2) | exact HI110.out)); (case side2 => repeat (first | (with_reducible first | exact HB.out | apply below_alloc | apply pw_below_drewN | apply below_drew1 | refine below_set ?_ (IsS65.ge HI110.out)) | exact HB.out)); rintro e w44 ⟨rfl, hi, hb, hk⟩; refine ⟨_, rfl, ?_⟩; have n0_ := Aside0.mk (Kd.R_mono (Kd.R_keep (IsS65.apart (show IsS65 w _ g110 t115 t116 t117 from by repeat (first | (with_reducible first | exact HI110.out | apply IsS65.alloc | apply IsS65.drewN | apply IsS65.drew | apply IsS65.set_0 | apply IsS65.set_1 | apply IsS65.set_2) | exact HI110.out)) (by (with_reducible repeat (first | apply Kd.R_alloc | apply Kd.R_drewN | apply Kd.R_drew)); exact HO_1.out) (by decide)) hk (fun _ h => h.2)) (fun _ h => h.1)); have n1_ := Aside0.mk (hb); have n2_ := Aside0.mk (hi); clear HO_1; clear HB; clear HI110; have HO_1 := n0_; have HB := n1_; have HI110 := n2_; clear n0_ n1_ n2_; (try clear hb); (try clear hb2); (try clear hk); (try clear hi)) | ((with_reducible refine gate_callee (f := 13) rfl ?_); refine goesL_ (some 43) rfl rfl Try.func13 (by kernel_rfl) rfl #[.pointer (some ⟨g110, 0, none⟩)] rfl (by (try simp only [List.map_toArray, List.map_cons, List.map_nil]); first | done | rfl | (simp only [List.length_drop, List.length_take]; rfl)) ?_; (with_reducible refine (chunk_Whole.calls g110 t120 t121 t122 t123 false t125 t126 t127 w _ ?side1 ?side2 A18.out).mono ?_); (case side1 => repeat (first | (with_reducible first | exact HI110.out | apply IsS65.alloc | apply IsS65.drewN | apply IsS65.drew | apply IsS65.set_0 | apply IsS65.set_1 | apply IsS65.set_2) | exact HI110.out)); (case side2 => repeat (first | (with_reducible first | exact HB.out | apply below_alloc | apply pw_below_drewN | apply below_drew1 | refine below_set ?_ (IsS65.ge HI110.out)) | exact HB.out)); rintro e w45 ⟨rfl, hi, hb, hk⟩; refine ⟨_, rfl, ?_⟩; have n0_ := Aside0.mk (Kd.R_mono (Kd.R_keep (IsS65.apart (show IsS65 w _ g110 t120 t121 t122 from by repeat (first | (with_reducible first | exact HI110.out | apply IsS65.alloc | apply IsS65.drewN | apply IsS65.drew | apply IsS65.set_0 | apply IsS65.set_1 | apply IsS65.set_2) | exact HI110.out)) (by (with_reducible repeat (first | apply Kd.R_alloc | apply Kd.R_drewN | apply Kd.R_drew)); exact HO_1.out) (by decide)) hk (fun _ h => h.2)) (fun _ h => h.1)); have n1_ := Aside0.mk (hb); have n2_ := Aside0.mk (hi); clear HO_1; clear HB; clear HI110; have HO_1 := n0_; have HB := n1_; have HI110 := n2_; clear n0_ n1_ n2_; (try clear hb); (try clear hb2); (try clear hk); (try clear hi)))
                  go_ret
                  exact ⟨by first | rfl | (simp [errW_none, errW_some] <;> rfl) | (simp [*, errW_none, errW_some] <;> rfl), by repeat (first | (with_reducible first | exact HB.out | apply below_alloc | apply pw_below_drewN | apply below_drew1 | refine below_set ?_ (IsS65.ge HI110.out)) | exact HB.out)⟩
              · rw [if_neg c25] at H
                have c25b0 : (t123.toList == ([97, 98] : List UInt8)) = false := beq_eq_false_iff_ne.mpr c25
                have c25b1 : (t123.toList != ([97, 98] : List UInt8)) = true := bne_iff_ne.mpr c25
                obtain rfl := Option.some.inj H
                go_wp2_with (first | ((with_reducible refine gate_dst (N := 39) rfl ?_); refine load_event rfl (.tmp 38) 42 rfl rfl (load42_0 (Kd.R_reads' HO_1.out).2.2 (of_decide_eq_true (by first | (with_reducible assumption) | assumption))) ?_; simp only [v42]) | ((with_reducible refine gate_dst (N := 62) rfl ?_); refine gate_guard (by first | rfl | kernel_rfl) ?_; refine load_event rfl (.tmp 61) 42 rfl rfl (load42_0 (Kd.R_reads' HO_1.out).2.2 (of_decide_eq_true (by first | (with_reducible assumption) | assumption))) ?_; simp only [v42]) | ((with_reducible refine gate_callee (f := 13) rfl ?_); refine goesL_ (some 33) rfl rfl Try.func13 (by kernel_rfl) rfl #[.pointer (some ⟨g110, 0, none⟩)] rfl (by (try simp only [List.map_toArray, List.map_cons, List.map_nil]); first | done | rfl | (simp only [List.length_drop, List.length_take]; rfl)) ?_; (with_reducible refine (chunk_Whole.calls g110 t107 t108 t109 t113 false t115 t116 t117 w _ ?side1 ?side2 A15.out).mono ?_); (case side1 => repeat (first | (with_reducible first | exact HI110.out | apply IsS65.alloc | apply IsS65.drewN | apply IsS65.drew | apply IsS65.set_0 | apply IsS65.set_1 | apply IsS65.set_2) | exact HI110.out)); (case side2 => repeat (first | (with_reducible first | exact HB.out | apply below_alloc | apply pw_below_drewN | apply below_drew1 | refine below_set ?_ (IsS65.ge HI110.out)) | exact HB.out)); rintro e w46 ⟨rfl, hi, hb, hk⟩; refine ⟨_, rfl, ?_⟩; have n0_ := Aside0.mk (Kd.R_mono (Kd.R_keep (IsS65.apart (show IsS65 w _ g110 t107 t108 t109 from by repeat (first | (with_reducible first | exact HI110.out | apply IsS65.alloc | apply IsS65.drewN | apply IsS65.drew | apply IsS65.set_0 | apply IsS65.set_1 | apply IsS65.set_2) | exact HI110.out)) (by (with_reducible repeat (first | apply Kd.R_alloc | apply Kd.R_drewN | apply Kd.R_drew)); exact HO_1.out) (by decide)) hk (fun _ h => h.2)) (fun _ h => h.1)); have n1_ := Aside0.mk (hb); have n2_ := Aside0.mk (hi); clear HO_1; clear HB; clear HI110; have HO_1 := n0_; have HB := n1_; have HI110 := n2_; clear n0_ n1_ n2_; (try clear hb); (try clear hb2); (try clear hk); (try clear hi); obtain ⟨Ao47, co47, eo47⟩ := Kd.R_slice HO_1.out; subst eo47; have p118 : 0 ≤ (0 : Int) := (by omega); have q118 : 0 < (t104.length : Int) := of_decide_eq_true (by first | (with_reducible assumption) | assumption); obtain ⟨ad118, e118, hx118_0, hx118_1, hx118_2, hx118_3, hx118_4, hx118_5, hx118_6, hx118_7, hx118_8, hx118_9, hx118_10, hx118_11, hx118_12, hx118_13, hx118_14, hx118_15, hx118_16, hx118_17⟩ := at_T42 (Kd.R_reads' HO_1.out).2.2 0 p118 q118; cases e118; have qi118 : (0 < t104.length) = True := eq_true (by omega); (try rw [show ((0 : Int)).toNat = 0 from rfl] at hx118_0); (try rw [show 0 * 18 = 0 from rfl] at hx118_0); (try rw [Addr.add_zero'] at hx118_0); (try rw [show ((0 : Int)).toNat = 0 from rfl] at hx118_1); (try rw [show 0 * 18 = 0 from rfl] at hx118_1); (try rw [Addr.add_zero'] at hx118_1); (try rw [show ((0 : Int)).toNat = 0 from rfl] at hx118_2); (try rw [show 0 * 18 = 0 from rfl] at hx118_2); (try rw [Addr.add_zero'] at hx118_2); (try rw [show ((0 : Int)).toNat = 0 from rfl] at hx118_3); (try rw [show 0 * 18 = 0 from rfl] at hx118_3); (try rw [Addr.add_zero'] at hx118_3); (try rw [show ((0 : Int)).toNat = 0 from rfl] at hx118_4); (try rw [show 0 * 18 = 0 from rfl] at hx118_4); (try rw [Addr.add_zero'] at hx118_4); (try rw [show ((0 : Int)).toNat = 0 from rfl] at hx118_5); (try rw [show 0 * 18 = 0 from rfl] at hx118_5); (try rw [Addr.add_zero'] at hx118_5); (try rw [show ((0 : Int)).toNat = 0 from rfl] at hx118_6); (try rw [show 0 * 18 = 0 from rfl] at hx118_6); (try rw [Addr.add_zero'] at hx118_6); (try rw [show ((0 : Int)).toNat = 0 from rfl] at hx118_7); (try rw [show 0 * 18 = 0 from rfl] at hx118_7); (try rw [Addr.add_zero'] at hx118_7); (try rw [show ((0 : Int)).toNat = 0 from rfl] at hx118_8); (try rw [show 0 * 18 = 0 from rfl] at hx118_8); (try rw [Addr.add_zero'] at hx118_8); (try rw [show ((0 : Int)).toNat = 0 from rfl] at hx118_9); (try rw [show 0 * 18 = 0 from rfl] at hx118_9); (try rw [Addr.add_zero'] at hx118_9); (try rw [show ((0 : Int)).toNat = 0 from rfl] at hx118_10); (try rw [show 0 * 18 = 0 from rfl] at hx118_10); (try rw [Addr.add_zero'] at hx118_10); (try rw [show ((0 : Int)).toNat = 0 from rfl] at hx118_11); (try rw [show 0 * 18 = 0 from rfl] at hx118_11); (try rw [Addr.add_zero'] at hx118_11); (try rw [show ((0 : Int)).toNat = 0 from rfl] at hx118_12); (try rw [show 0 * 18 = 0 from rfl] at hx118_12); (try rw [Addr.add_zero'] at hx118_12); (try rw [show ((0 : Int)).toNat = 0 from rfl] at hx118_13); (try rw [show 0 * 18 = 0 from rfl] at hx118_13); (try rw [Addr.add_zero'] at hx118_13); (try rw [show ((0 : Int)).toNat = 0 from rfl] at hx118_14); (try rw [show 0 * 18 = 0 from rfl] at hx118_14); (try rw [Addr.add_zero'] at hx118_14); (try rw [show ((0 : Int)).toNat = 0 from rfl] at hx118_15); (try rw [show 0 * 18 = 0 from rfl] at hx118_15); (try rw [Addr.add_zero'] at hx118_15); (try rw [show ((0 : Int)).toNat = 0 from rfl] at hx118_16); (try rw [show 0 * 18 = 0 from rfl] at hx118_16); (try rw [Addr.add_zero'] at hx118_16); (try rw [show ((0 : Int)).toNat = 0 from rfl] at hx118_17); (try rw [show 0 * 18 = 0 from rfl] at hx118_17); (try rw [Addr.add_zero'] at hx118_17); replace p118 := eq_true p118; replace q118 := eq_true q118) | ((with_reducible refine gate_callee (f := 12) rfl ?_); refine goesL_ (some 40) rfl rfl Try.func12 (by kernel_rfl) rfl #[.pointer (some ⟨g110, 0, none⟩), .agg #[.int .i64 ((rd_T42 t104 0).f0), .string ((rd_T42 t104 0).f1), .int .u32 ((rd_T42 t104 0).f2), .int .u64 ((rd_T42 t104 0).f3), .bool ((rd_T42 t104 0).f4), .bool ((rd_T42 t104 0).f5), .int .u64 ((rd_T42 t104 0).f6.f0.f0), .int .u64 ((rd_T42 t104 0).f6.f0.f1.f0), .int .i64 ((rd_T42 t104 0).f6.f0.f1.f1), .int .u64 ((rd_T42 t104 0).f6.f0.f2), .slice ((rd_T42 t104 0).f6.f1).A ((rd_T42 t104 0).f6.f1).n ((rd_T42 t104 0).f6.f1).c, .int .u64 ((rd_T42 t104 0).f7.f0), .int .u64 ((rd_T42 t104 0).f7.f1.f0), .int .i64 ((rd_T42 t104 0).f7.f1.f1), .int .u64 ((rd_T42 t104 0).f7.f2), .int .u64 ((rd_T42 t104 0).f8), .int .i64 ((rd_T42 t104 0).f9), .int .i64 ((rd_T42 t104 0).f10)]] rfl (by (try simp only [List.map_toArray, List.map_cons, List.map_nil]); first | done | rfl | (simp only [List.length_drop, List.length_take]; rfl)) ?_; (with_reducible refine (chunk_Take.calls g110 t115 t116 t117 ((rd_T42 t104 0).f0) ((rd_T42 t104 0).f1) ((rd_T42 t104 0).f2) ((rd_T42 t104 0).f3) ((rd_T42 t104 0).f4) ((rd_T42 t104 0).f5) ((rd_T42 t104 0).f6.f0.f0) ((rd_T42 t104 0).f6.f0.f1.f0) ((rd_T42 t104 0).f6.f0.f1.f1) ((rd_T42 t104 0).f6.f0.f2) ((rd_T42 t104 0).f6.f1) ((rd_T42 t104 0).f7.f0) ((rd_T42 t104 0).f7.f1.f0) ((rd_T42 t104 0).f7.f1.f1) ((rd_T42 t104 0).f7.f2) ((rd_T42 t104 0).f8) ((rd_T42 t104 0).f9) ((rd_T42 t104 0).f10) true t120 t121 t122 w _ ?side1 ?side2 A17.out).mono ?_); (case side1 => repeat (first | (with_reducible first | exact HI110.out | apply IsS65.alloc | apply IsS65.drewN | apply IsS65.drew | apply IsS65.set_0 | apply IsS65.set_1 | apply IsS65.set_2) | exact HI110.out)); (case side2 => repeat (first | (with_reducible first | exact HB.out | apply below_alloc | apply pw_below_drewN | apply below_drew1 | refine below_set ?_ (IsS65.ge HI110.out)) | exact HB.out)); rintro e w48 ⟨rfl, hi, hb, hk⟩; refine ⟨_, rfl, ?_⟩; have n0_ := Aside0.mk (Kd.R_mono (Kd.R_keep (IsS65.apart (show IsS65 w _ g110 t115 t116 t117 from by repeat (first | (with_reducible first | exact HI110.out | apply IsS65.alloc | apply IsS65.drewN | apply IsS65.drew | apply IsS65.set_0 | apply IsS65.set_1 | apply IsS65.set_2) | exact HI110.out)) (by (with_reducible repeat (first | apply Kd.R_alloc | apply Kd.R_drewN | apply Kd.R_drew)); exact HO_1.out) (by decide)) hk (fun _ h => h.2)) (fun _ h => h.1)); have n1_ := Aside0.mk (hb); have n2_ := Aside0.mk (hi); clear HO_1; clear HB; clear HI110; have HO_1 := n0_; have HB := n1_; have HI110 := n2_; clear n0_ n1_ n2_; (try clear hb); (try clear hb2); (try clear hk); (try clear hi)) | ((with_reducible refine gate_callee (f := 13) rfl ?_); refine goesL_ (some 43) rfl rfl Try.func13 (by kernel_rfl) rfl #[.pointer (some ⟨g110, 0, none⟩)] rfl (by (try simp only [List.map_toArray, List.map_cons, List.map_nil]); first | done | rfl | (simp only [List.length_drop, List.length_take]; rfl)) ?_; (with_reducible refine (chunk_Whole.calls g110 t120 t121 t122 t123 t124 t125 t126 t127 w _ ?side1 ?side2 A18.out).mono ?_); (case side1 => repeat (first | (with_reducible first | exact HI110.out | apply IsS65.alloc | apply IsS65.drewN | apply IsS65.drew | apply IsS65.set_0 | apply IsS65.set_1 | apply IsS65.set_2) | exact HI110.out)); (case side2 => repeat (first | (with_reducible first | exact HB.out | apply below_alloc | apply pw_below_drewN | apply below_drew1 | refine below_set ?_ (IsS65.ge HI110.out)) | exact HB.out)); rintro e w49 ⟨rfl, hi, hb, hk⟩; refine ⟨_, rfl, ?_⟩; have n0_ := Aside0.mk (Kd.R_mono (Kd.R_keep (IsS65.apart (show IsS65 w _ g110 t120 t121 t122 from by repeat (first | (with_reducible first | exact HI110.out | apply IsS65.alloc | apply IsS65.drewN | apply IsS65.drew | apply IsS65.set_0 | apply IsS65.set_1 | apply IsS65.set_2) | exact HI110.out)) (by (with_reducible repeat (first | apply Kd.R_alloc | apply Kd.R_drewN | apply Kd.R_drew)); exact HO_1.out) (by decide)) hk (fun _ h => h.2)) (fun _ h => h.1)); have n1_ := Aside0.mk (hb); have n2_ := Aside0.mk (hi); clear HO_1; clear HB; clear HI110; have HO_1 := n0_; have HB := n1_; have HI110 := n2_; clear n0_ n1_ n2_; (try clear hb); (try clear hb2); (try clear hk); (try clear hi)))
                go_ret
                exact ⟨by first | rfl | (simp [errW_none, errW_some] <;> rfl) | (simp [*, errW_none, errW_some] <;> rfl), by repeat (first | (with_reducible first | exact HB.out | apply below_alloc | apply pw_below_drewN | apply below_drew1 | refine below_set ?_ (IsS65.ge HI110.out)) | exact HB.out)⟩
            · replace c24 := Bool.eq_false_iff.mpr c24
              subst c24
              have H1 : (some false) = some r := by first | (rw [if_neg (show ¬ (false = true) by decide)] at H; done) | (rw [if_neg (show ¬ (false = true) by decide)] at H; exact H)
              clear H
              have H := H1
              clear H1
              obtain rfl := Option.some.inj H
              go_wp2_with (first | ((with_reducible refine gate_dst (N := 39) rfl ?_); refine load_event rfl (.tmp 38) 42 rfl rfl (load42_0 (Kd.R_reads' HO_1.out).2.2 (of_decide_eq_true (by first | (with_reducible assumption) | assumption))) ?_; simp only [v42]) | ((with_reducible refine gate_dst (N := 62) rfl ?_); refine gate_guard (by first | rfl | kernel_rfl) ?_; refine load_event rfl (.tmp 61) 42 rfl rfl (load42_0 (Kd.R_reads' HO_1.out).2.2 (of_decide_eq_true (by first | (with_reducible assumption) | assumption))) ?_; simp only [v42]) | ((with_reducible refine gate_callee (f := 13) rfl ?_); refine goesL_ (some 33) rfl rfl Try.func13 (by kernel_rfl) rfl #[.pointer (some ⟨g110, 0, none⟩)] rfl (by (try simp only [List.map_toArray, List.map_cons, List.map_nil]); first | done | rfl | (simp only [List.length_drop, List.length_take]; rfl)) ?_; (with_reducible refine (chunk_Whole.calls g110 t107 t108 t109 t113 false t115 t116 t117 w _ ?side1 ?side2 A15.out).mono ?_); (case side1 => repeat (first | (with_reducible first | exact HI110.out | apply IsS65.alloc | apply IsS65.drewN | apply IsS65.drew | apply IsS65.set_0 | apply IsS65.set_1 | apply IsS65.set_2) | exact HI110.out)); (case side2 => repeat (first | (with_reducible first | exact HB.out | apply below_alloc | apply pw_below_drewN | apply below_drew1 | refine below_set ?_ (IsS65.ge HI110.out)) | exact HB.out)); rintro e w50 ⟨rfl, hi, hb, hk⟩; refine ⟨_, rfl, ?_⟩; have n0_ := Aside0.mk (Kd.R_mono (Kd.R_keep (IsS65.apart (show IsS65 w _ g110 t107 t108 t109 from by repeat (first | (with_reducible first | exact HI110.out | apply IsS65.alloc | apply IsS65.drewN | apply IsS65.drew | apply IsS65.set_0 | apply IsS65.set_1 | apply IsS65.set_2) | exact HI110.out)) (by (with_reducible repeat (first | apply Kd.R_alloc | apply Kd.R_drewN | apply Kd.R_drew)); exact HO_1.out) (by decide)) hk (fun _ h => h.2)) (fun _ h => h.1)); have n1_ := Aside0.mk (hb); have n2_ := Aside0.mk (hi); clear HO_1; clear HB; clear HI110; have HO_1 := n0_; have HB := n1_; have HI110 := n2_; clear n0_ n1_ n2_; (try clear hb); (try clear hb2); (try clear hk); (try clear hi); obtain ⟨Ao51, co51, eo51⟩ := Kd.R_slice HO_1.out; subst eo51; have p118 : 0 ≤ (0 : Int) := (by omega); have q118 : 0 < (t104.length : Int) := of_decide_eq_true (by first | (with_reducible assumption) | assumption); obtain ⟨ad118, e118, hx118_0, hx118_1, hx118_2, hx118_3, hx118_4, hx118_5, hx118_6, hx118_7, hx118_8, hx118_9, hx118_10, hx118_11, hx118_12, hx118_13, hx118_14, hx118_15, hx118_16, hx118_17⟩ := at_T42 (Kd.R_reads' HO_1.out).2.2 0 p118 q118; cases e118; have qi118 : (0 < t104.length) = True := eq_true (by omega); (try rw [show ((0 : Int)).toNat = 0 from rfl] at hx118_0); (try rw [show 0 * 18 = 0 from rfl] at hx118_0); (try rw [Addr.add_zero'] at hx118_0); (try rw [show ((0 : Int)).toNat = 0 from rfl] at hx118_1); (try rw [show 0 * 18 = 0 from rfl] at hx118_1); (try rw [Addr.add_zero'] at hx118_1); (try rw [show ((0 : Int)).toNat = 0 from rfl] at hx118_2); (try rw [show 0 * 18 = 0 from rfl] at hx118_2); (try rw [Addr.add_zero'] at hx118_2); (try rw [show ((0 : Int)).toNat = 0 from rfl] at hx118_3); (try rw [show 0 * 18 = 0 from rfl] at hx118_3); (try rw [Addr.add_zero'] at hx118_3); (try rw [show ((0 : Int)).toNat = 0 from rfl] at hx118_4); (try rw [show 0 * 18 = 0 from rfl] at hx118_4); (try rw [Addr.add_zero'] at hx118_4); (try rw [show ((0 : Int)).toNat = 0 from rfl] at hx118_5); (try rw [show 0 * 18 = 0 from rfl] at hx118_5); (try rw [Addr.add_zero'] at hx118_5); (try rw [show ((0 : Int)).toNat = 0 from rfl] at hx118_6); (try rw [show 0 * 18 = 0 from rfl] at hx118_6); (try rw [Addr.add_zero'] at hx118_6); (try rw [show ((0 : Int)).toNat = 0 from rfl] at hx118_7); (try rw [show 0 * 18 = 0 from rfl] at hx118_7); (try rw [Addr.add_zero'] at hx118_7); (try rw [show ((0 : Int)).toNat = 0 from rfl] at hx118_8); (try rw [show 0 * 18 = 0 from rfl] at hx118_8); (try rw [Addr.add_zero'] at hx118_8); (try rw [show ((0 : Int)).toNat = 0 from rfl] at hx118_9); (try rw [show 0 * 18 = 0 from rfl] at hx118_9); (try rw [Addr.add_zero'] at hx118_9); (try rw [show ((0 : Int)).toNat = 0 from rfl] at hx118_10); (try rw [show 0 * 18 = 0 from rfl] at hx118_10); (try rw [Addr.add_zero'] at hx118_10); (try rw [show ((0 : Int)).toNat = 0 from rfl] at hx118_11); (try rw [show 0 * 18 = 0 from rfl] at hx118_11); (try rw [Addr.add_zero'] at hx118_11); (try rw [show ((0 : Int)).toNat = 0 from rfl] at hx118_12); (try rw [show 0 * 18 = 0 from rfl] at hx118_12); (try rw [Addr.add_zero'] at hx118_12); (try rw [show ((0 : Int)).toNat = 0 from rfl] at hx118_13); (try rw [show 0 * 18 = 0 from rfl] at hx118_13); (try rw [Addr.add_zero'] at hx118_13); (try rw [show ((0 : Int)).toNat = 0 from rfl] at hx118_14); (try rw [show 0 * 18 = 0 from rfl] at hx118_14); (try rw [Addr.add_zero'] at hx118_14); (try rw [show ((0 : Int)).toNat = 0 from rfl] at hx118_15); (try rw [show 0 * 18 = 0 from rfl] at hx118_15); (try rw [Addr.add_zero'] at hx118_15); (try rw [show ((0 : Int)).toNat = 0 from rfl] at hx118_16); (try rw [show 0 * 18 = 0 from rfl] at hx118_16); (try rw [Addr.add_zero'] at hx118_16); (try rw [show ((0 : Int)).toNat = 0 from rfl] at hx118_17); (try rw [show 0 * 18 = 0 from rfl] at hx118_17); (try rw [Addr.add_zero'] at hx118_17); replace p118 := eq_true p118; replace q118 := eq_true q118) | ((with_reducible refine gate_callee (f := 12) rfl ?_); refine goesL_ (some 40) rfl rfl Try.func12 (by kernel_rfl) rfl #[.pointer (some ⟨g110, 0, none⟩), .agg #[.int .i64 ((rd_T42 t104 0).f0), .string ((rd_T42 t104 0).f1), .int .u32 ((rd_T42 t104 0).f2), .int .u64 ((rd_T42 t104 0).f3), .bool ((rd_T42 t104 0).f4), .bool ((rd_T42 t104 0).f5), .int .u64 ((rd_T42 t104 0).f6.f0.f0), .int .u64 ((rd_T42 t104 0).f6.f0.f1.f0), .int .i64 ((rd_T42 t104 0).f6.f0.f1.f1), .int .u64 ((rd_T42 t104 0).f6.f0.f2), .slice ((rd_T42 t104 0).f6.f1).A ((rd_T42 t104 0).f6.f1).n ((rd_T42 t104 0).f6.f1).c, .int .u64 ((rd_T42 t104 0).f7.f0), .int .u64 ((rd_T42 t104 0).f7.f1.f0), .int .i64 ((rd_T42 t104 0).f7.f1.f1), .int .u64 ((rd_T42 t104 0).f7.f2), .int .u64 ((rd_T42 t104 0).f8), .int .i64 ((rd_T42 t104 0).f9), .int .i64 ((rd_T42 t104 0).f10)]] rfl (by (try simp only [List.map_toArray, List.map_cons, List.map_nil]); first | done | rfl | (simp only [List.length_drop, List.length_take]; rfl)) ?_; (with_reducible refine (chunk_Take.calls g110 t115 t116 t117 ((rd_T42 t104 0).f0) ((rd_T42 t104 0).f1) ((rd_T42 t104 0).f2) ((rd_T42 t104 0).f3) ((rd_T42 t104 0).f4) ((rd_T42 t104 0).f5) ((rd_T42 t104 0).f6.f0.f0) ((rd_T42 t104 0).f6.f0.f1.f0) ((rd_T42 t104 0).f6.f0.f1.f1) ((rd_T42 t104 0).f6.f0.f2) ((rd_T42 t104 0).f6.f1) ((rd_T42 t104 0).f7.f0) ((rd_T42 t104 0).f7.f1.f0) ((rd_T42 t104 0).f7.f1.f1) ((rd_T42 t104 0).f7.f2) ((rd_T42 t104 0).f8) ((rd_T42 t104 0).f9) ((rd_T42 t104 0).f10) false t120 t121 t122 w _ ?side1 ?side2 A17.out).mono ?_); (case side1 => repeat (first | (with_reducible first | exact HI110.out | apply IsS65.alloc | apply IsS65.drewN | apply IsS65.drew | apply IsS65.set_0 | apply IsS65.set_1 | apply IsS65.set_2) | exact HI110.out)); (case side2 => repeat (first | (with_reducible first | exact HB.out | apply below_alloc | apply pw_below_drewN | apply below_drew1 | refine below_set ?_ (IsS65.ge HI110.out)) | exact HB.out)); rintro e w52 ⟨rfl, hi, hb, hk⟩; refine ⟨_, rfl, ?_⟩; have n0_ := Aside0.mk (Kd.R_mono (Kd.R_keep (IsS65.apart (show IsS65 w _ g110 t115 t116 t117 from by repeat (first | (with_reducible first | exact HI110.out | apply IsS65.alloc | apply IsS65.drewN | apply IsS65.drew | apply IsS65.set_0 | apply IsS65.set_1 | apply IsS65.set_2) | exact HI110.out)) (by (with_reducible repeat (first | apply Kd.R_alloc | apply Kd.R_drewN | apply Kd.R_drew)); exact HO_1.out) (by decide)) hk (fun _ h => h.2)) (fun _ h => h.1)); have n1_ := Aside0.mk (hb); have n2_ := Aside0.mk (hi); clear HO_1; clear HB; clear HI110; have HO_1 := n0_; have HB := n1_; have HI110 := n2_; clear n0_ n1_ n2_; (try clear hb); (try clear hb2); (try clear hk); (try clear hi)) | ((with_reducible refine gate_callee (f := 13) rfl ?_); refine goesL_ (some 43) rfl rfl Try.func13 (by kernel_rfl) rfl #[.pointer (some ⟨g110, 0, none⟩)] rfl (by (try simp only [List.map_toArray, List.map_cons, List.map_nil]); first | done | rfl | (simp only [List.length_drop, List.length_take]; rfl)) ?_; (with_reducible refine (chunk_Whole.calls g110 t120 t121 t122 t123 t124 t125 t126 t127 w _ ?side1 ?side2 A18.out).mono ?_); (case side1 => repeat (first | (with_reducible first | exact HI110.out | apply IsS65.alloc | apply IsS65.drewN | apply IsS65.drew | apply IsS65.set_0 | apply IsS65.set_1 | apply IsS65.set_2) | exact HI110.out)); (case side2 => repeat (first | (with_reducible first | exact HB.out | apply below_alloc | apply pw_below_drewN | apply below_drew1 | refine below_set ?_ (IsS65.ge HI110.out)) | exact HB.out)); rintro e w53 ⟨rfl, hi, hb, hk⟩; refine ⟨_, rfl, ?_⟩; have n0_ := Aside0.mk (Kd.R_mono (Kd.R_keep (IsS65.apart (show IsS65 w _ g110 t120 t121 t122 from by repeat (first | (with_reducible first | exact HI110.out | apply IsS65.alloc | apply IsS65.drewN | apply IsS65.drew | apply IsS65.set_0 | apply IsS65.set_1 | apply IsS65.set_2) | exact HI110.out)) (by (with_reducible repeat (first | apply Kd.R_alloc | apply Kd.R_drewN | apply Kd.R_drew)); exact HO_1.out) (by decide)) hk (fun _ h => h.2)) (fun _ h => h.1)); have n1_ := Aside0.mk (hb); have n2_ := Aside0.mk (hi); clear HO_1; clear HB; clear HI110; have HO_1 := n0_; have HB := n1_; have HI110 := n2_; clear n0_ n1_ n2_; (try clear hb); (try clear hb2); (try clear hk); (try clear hi)))
              go_ret
              exact ⟨by first | rfl | (simp [errW_none, errW_some] <;> rfl) | (simp [*, errW_none, errW_some] <;> rfl), by repeat (first | (with_reducible first | exact HB.out | apply below_alloc | apply pw_below_drewN | apply below_drew1 | refine below_set ?_ (IsS65.ge HI110.out)) | exact HB.out)⟩
        · rw [if_neg c16] at H
          exact absurd H (by simp)

-- NOT PRINTED: function 4 (consortlaw23_ChunkBack)

/-! ### consortlaw19_rec: function 18 -/
def consortlaw19_rec.f (a0_0 : Int) (a0_1 : Int) (a0_2 : Int) (a0_3 : Int) (a0_4 : OV) : Option (Int × Int × Int × Int × OV) := some (a0_0, a0_1, a0_2, a0_3, a0_4)
set_option maxHeartbeats 8000000 in
set_option maxRecDepth 100000 in
theorem consortlaw19_rec.calls (a0_0 : Int) (a0_1 : Int) (a0_2 : Int) (a0_3 : Int) (a0_4 : OV) (r1 : Int) (r2 : Int) (r3 : Int) (r4 : Int) (r5 : OV) (w : World) (h : consortlaw19_rec.f a0_0 a0_1 a0_2 a0_3 a0_4 = some (r1, r2, r3, r4, r5)) :
    Calls Try.prog 18 #[.agg #[.int .u64 a0_0, .int .u64 a0_1, .int .i64 a0_2, .int .u64 a0_3, .slice a0_4.A a0_4.n a0_4.c]] w fun e w' => e = .returned (.agg #[.int .u64 r1, .int .u64 r2, .int .i64 r3, .int .u64 r4, .slice r5.A r5.n r5.c]) ∧ Below w.heap.size w w' := by
  have hu40 := Try.underlying40
  have hu36 := Try.underlying36
  have hu33 := Try.underlying33
  have HB := Aside0.mk (Below.refl w.heap.size w)
  have H : (some (a0_0, a0_1, a0_2, a0_3, a0_4)) = some (r1, r2, r3, r4, r5) := h
  clear h
  simp only [Option.some.injEq, Prod.mk.injEq] at H
  obtain ⟨rfl, rfl, rfl, rfl, rfl⟩ := H
  go_enter Try.func18, Try.ntmps18
  go_wp2_with (first | ((with_reducible refine gate_dst (N := 1) rfl ?_); refine box_event ?hg (N := 1) ?hd (cs := #[.int .u64 a0_0, .int .u64 a0_1, .int .i64 a0_2, .int .u64 a0_3, .slice a0_4.A a0_4.n a0_4.c]) (t := 40) ?hr ?_; (case hd => rfl); (case hg => rfl); (case hr => first | (go_simp; done) | (go_simp; rfl)); intro gb145 hg w2 hbox hb; have n0_ := Aside0.mk (below_step (by repeat (first | (with_reducible first | exact HB.out | apply below_alloc | apply pw_below_drewN | apply below_drew1) | exact HB.out)) hb); have n1_ := Aside0.mk (hbox); have n2_ := Aside0.mk ((by rw [hg]; exact (below_size (by repeat (first | (with_reducible first | exact HB.out | apply below_alloc | apply pw_below_drewN | apply below_drew1) | exact HB.out))) : w.heap.size ≤ gb145)); have n3_ := Aside0.mk ((by rw [hg]; exact (below_size (by repeat (first | (with_reducible first | exact HB.out | apply below_alloc | apply pw_below_drewN | apply below_drew1) | exact HB.out))) : w.heap.size ≤ gb145)); clear HB; have HB := n0_; have BK145 := n1_; have GW145 := n2_; have GE145 := n3_; clear n0_ n1_ n2_ n3_; clear hb hbox hg) | ((with_reducible refine gate_dst (N := 2) rfl ?_); refine box_event ?hg (N := 2) ?hd (cs := #[.int .u64 0, .int .u64 0, .int .i64 0, .int .u64 0, .slice OV.nil.A OV.nil.n OV.nil.c]) (t := 36) ?hr ?_; (case hd => rfl); (case hg => rfl); (case hr => first | (go_simp; done) | (go_simp; rfl)); intro gb146 hg w3 hbox hb; have n0_ := Aside0.mk (blk_below (g := gb145) (o := .cells #[.int .u64 a0_0, .int .u64 a0_1, .int .i64 a0_2, .int .u64 a0_3, .slice a0_4.A a0_4.n a0_4.c] 40 (0, 0)) (by (with_reducible repeat (first | refine blk_drewN ?_ _ | refine blk_drew ?_ | refine blk_alloc ?_ _)); exact BK145.out) hb); have n1_ := Aside0.mk (below_step (by repeat (first | (with_reducible first | exact HB.out | apply below_alloc | apply pw_below_drewN | apply below_drew1 | refine below_set ?_ GE145.out) | exact HB.out)) hb); have n2_ := Aside0.mk (hbox); have n3_ := Aside0.mk ((by rw [hg]; exact (below_size (by repeat (first | (with_reducible first | exact HB.out | apply below_alloc | apply pw_below_drewN | apply below_drew1 | refine below_set ?_ GE145.out) | exact HB.out))) : w.heap.size ≤ gb146)); have n4_ := Aside0.mk ((by rw [hg]; exact (below_size (by repeat (first | (with_reducible first | exact HB.out | apply below_alloc | apply pw_below_drewN | apply below_drew1 | refine below_set ?_ GE145.out) | exact HB.out))) : w.heap.size ≤ gb146)); have n5_ := Aside0.mk ((by rw [hg]; exact Nat.ne_of_lt (blk_lt (g := gb145) (o := .cells #[.int .u64 a0_0, .int .u64 a0_1, .int .i64 a0_2, .int .u64 a0_3, .slice a0_4.A a0_4.n a0_4.c] 40 (0, 0)) (by (with_reducible repeat (first | refine blk_drewN ?_ _ | refine blk_drew ?_ | refine blk_alloc ?_ _)); exact BK145.out)) : gb145 ≠ gb146)); have n6_ := Aside0.mk ((by rw [hg]; exact Nat.ne_of_gt (blk_lt (g := gb145) (o := .cells #[.int .u64 a0_0, .int .u64 a0_1, .int .i64 a0_2, .int .u64 a0_3, .slice a0_4.A a0_4.n a0_4.c] 40 (0, 0)) (by (with_reducible repeat (first | refine blk_drewN ?_ _ | refine blk_drew ?_ | refine blk_alloc ?_ _)); exact BK145.out)) : gb146 ≠ gb145)); clear BK145; clear HB; have BK145 := n0_; have HB := n1_; have BK146 := n2_; have GW146 := n3_; have GE146 := n4_; have NB145_146 := n5_; have NB146_145 := n6_; clear n0_ n1_ n2_ n3_ n4_ n5_ n6_; clear hb hbox hg; have hnb4 := NB145_146.out; have hnc4 := NB146_145.out; have hcz5_0 : w3.cell? ⟨gb145, 0, none⟩ = some (.int .u64 a0_0) := (blk_cell BK145.out 0).trans rfl; have hcz5_1 : w3.cell? ⟨gb145, 1, none⟩ = some (.int .u64 a0_1) := (blk_cell BK145.out 1).trans rfl; have hcz5_2 : w3.cell? ⟨gb145, 2, none⟩ = some (.int .i64 a0_2) := (blk_cell BK145.out 2).trans rfl; have hcz5_3 : w3.cell? ⟨gb145, 3, none⟩ = some (.int .u64 a0_3) := (blk_cell BK145.out 3).trans rfl; have hcz5_4 : w3.cell? ⟨gb145, 4, none⟩ = some (.slice a0_4.A a0_4.n a0_4.c) := (blk_cell BK145.out 4).trans rfl; have hfz5_0 := blk_frozen BK145.out 0; have hfz5_1 := blk_frozen BK145.out 1; have hfz5_2 := blk_frozen BK145.out 2; have hfz5_3 := blk_frozen BK145.out 3; have hfz5_4 := blk_frozen BK145.out 4; have hcz6_0 : w3.cell? ⟨gb146, 0, none⟩ = some (.int .u64 0) := (blk_cell BK146.out 0).trans rfl; have hcz6_1 : w3.cell? ⟨gb146, 1, none⟩ = some (.int .u64 0) := (blk_cell BK146.out 1).trans rfl; have hcz6_2 : w3.cell? ⟨gb146, 2, none⟩ = some (.int .i64 0) := (blk_cell BK146.out 2).trans rfl; have hcz6_3 : w3.cell? ⟨gb146, 3, none⟩ = some (.int .u64 0) := (blk_cell BK146.out 3).trans rfl; have hcz6_4 : w3.cell? ⟨gb146, 4, none⟩ = some (.slice OV.nil.A OV.nil.n OV.nil.c) := (blk_cell BK146.out 4).trans rfl; have hfz6_0 := blk_frozen BK146.out 0; have hfz6_1 := blk_frozen BK146.out 1; have hfz6_2 := blk_frozen BK146.out 2; have hfz6_3 := blk_frozen BK146.out 3; have hfz6_4 := blk_frozen BK146.out 4))
  refine bodyPost_ret (results_cell_row rfl _ _ gb146 36 #[.int .u64 a0_0, .int .u64 a0_1, .int .i64 a0_2, .int .u64 a0_3, .slice a0_4.A a0_4.n a0_4.c] (0, 0) _ rfl (by (with_reducible repeat (first | refine blk_drewN ?_ _ | refine blk_drew ?_ | refine blk_alloc ?_ _)); refine blk_put (cs := #[.int .u64 a0_0, .int .u64 a0_1, .int .i64 a0_2, .int .u64 a0_3, .slice OV.nil.A OV.nil.n OV.nil.c]) ?_ 4 _ rfl; (with_reducible repeat (first | refine blk_drewN ?_ _ | refine blk_drew ?_ | refine blk_alloc ?_ _)); refine blk_put (cs := #[.int .u64 a0_0, .int .u64 a0_1, .int .i64 a0_2, .int .u64 0, .slice OV.nil.A OV.nil.n OV.nil.c]) ?_ 3 _ rfl; (with_reducible repeat (first | refine blk_drewN ?_ _ | refine blk_drew ?_ | refine blk_alloc ?_ _)); refine blk_put (cs := #[.int .u64 a0_0, .int .u64 a0_1, .int .i64 0, .int .u64 0, .slice OV.nil.A OV.nil.n OV.nil.c]) ?_ 2 _ rfl; (with_reducible repeat (first | refine blk_drewN ?_ _ | refine blk_drew ?_ | refine blk_alloc ?_ _)); refine blk_put (cs := #[.int .u64 a0_0, .int .u64 0, .int .i64 0, .int .u64 0, .slice OV.nil.A OV.nil.n OV.nil.c]) ?_ 1 _ rfl; (with_reducible repeat (first | refine blk_drewN ?_ _ | refine blk_drew ?_ | refine blk_alloc ?_ _)); refine blk_put (cs := #[.int .u64 0, .int .u64 0, .int .i64 0, .int .u64 0, .slice OV.nil.A OV.nil.n OV.nil.c]) ?_ 0 _ rfl; (with_reducible repeat (first | refine blk_drewN ?_ _ | refine blk_drew ?_ | refine blk_alloc ?_ _)); exact BK146.out) Try.underlying36 rfl (by kernel_rfl)) rfl ?_
  exact ⟨by first | rfl | (simp [errW_none, errW_some] <;> rfl) | (simp [*, errW_none, errW_some] <;> rfl), by repeat (first | (with_reducible first | exact HB.out | apply below_alloc | apply pw_below_drewN | apply below_drew1 | refine below_set ?_ GE145.out | refine below_set ?_ GE146.out) | exact HB.out)⟩

end Go.Proofs.Ytgpldjckohlkfaa.P
