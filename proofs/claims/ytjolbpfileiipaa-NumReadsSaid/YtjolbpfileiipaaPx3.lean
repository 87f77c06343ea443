-- Written by our own program (wip/pr) over the kit's print.py, with contracts of our own.
import Derived.Test.YtjolbpfileiipaaPx0
import Derived.Test.YtjolbpfileiipaaPx1
import Derived.Test.YtjolbpfileiipaaPx2
import Derived.Test.YtjolbpfileiipaaHandV
import Derived.Test.YtjolbpfileiipaaHandO
namespace Go.Proofs.Ytjolbpfileiipaa.P
open Go.RowKit Go.Proofs.YtjolbpfileiipaaW.PrintWords Go.Proofs.YtjolbpfileiipaaW.PrintLast Go.Proofs.YtjolbpfileiipaaW.PrintMore
attribute [local go_sem] max2_int min2_int max_two min_two max_three min_three max_four min_four   -- for this text's walks alone
set_option linter.unusedVariables false
set_option linter.unusedSimpArgs false

/-! ### consortlaw01_NumReads: function 6 -/
mutual
def consortlaw01_NumReads.j0 : Nat → ByteArray → List (S39) → Bool → Option (Bool)
  | 0, _, _, _ => none
  | k + 1, x0, x1, x24 => if x24 = true then (some true) else ((num_New.f x0).bind fun bt179 => (consortlaw01_NumReads.l0 k x0 x1 0 0 bt179.1 bt179.2))
def consortlaw01_NumReads.l0 : Nat → ByteArray → List (S39) → Int → Int → ByteArray → Int → Option (Bool)
  | 0, _, _, _, _, _, _ => none
  | k + 1, x0, x1, x6, x7, x182000, x182001 => if x7 < (x1.length : Int) then (if 0 ≤ x7 then ((consortlaw01_once.f x182000 x182001 ((rd_T39 x1 x7).f0) ((rd_T39 x1 x7).f1)).bind fun bt183 => (if (rd_T39 x1 x7).f0 = true then ((consortref01_Text.f x0 x6 ((rd_T39 x1 x7).f1)).bind fun bt190 => (consortlaw01_NumReads.j2 k x0 x1 x7 bt183.1 bt183.2.1 bt183.2.2.1 0 bt190.1 bt190.2.1 bt190.2.2 bt183.2.2.2.1 bt183.2.2.2.2)) else ((consortref01_Num.f k x0 x6 ((rd_T39 x1 x7).f1)).bind fun bt194 => (consortlaw01_NumReads.j2 k x0 x1 x7 bt183.1 bt183.2.1 bt183.2.2.1 bt194.1 (⟨#[]⟩ : ByteArray) bt194.2.1 bt194.2.2 bt183.2.2.2.1 bt183.2.2.2.2)))) else (none)) else (some true)
def consortlaw01_NumReads.j2 : Nat → ByteArray → List (S39) → Int → Int → ByteArray → Bool → Int → ByteArray → Int → Bool → ByteArray → Int → Option (Bool)
  | 0, _, _, _, _, _, _, _, _, _, _, _, _ => none
  | k + 1, x0, x1, x7, x8, x9, x10, x11, x12, x13, x14, x182000, x182001 => if (x10 != x14) = true then (consortlaw01_NumReads.j3 k x0 x1 x7 x13 true x182000 x182001) else (if x10 = true then (if x8 = x11 then (consortlaw01_NumReads.j3 k x0 x1 x7 x13 (x9.toList != x12.toList) x182000 x182001) else (consortlaw01_NumReads.j3 k x0 x1 x7 x13 true x182000 x182001)) else (consortlaw01_NumReads.j3 k x0 x1 x7 x13 false x182000 x182001))
def consortlaw01_NumReads.j3 : Nat → ByteArray → List (S39) → Int → Int → Bool → ByteArray → Int → Option (Bool)
  | 0, _, _, _, _, _, _, _ => none
  | k + 1, x0, x1, x7, x13, x88, x182000, x182001 => if x88 = true then (some false) else ((num_Reader_At.f x182000 x182001).bind fun bt197 => (if bt197.1 = x13 then ((num_Reader_Left.f bt197.2.1 bt197.2.2).bind fun bt200 => (if bt200.1 = (wrap64 ((x0.size : Int) - x13)) then (consortlaw01_NumReads.l0 k x0 x1 x13 (wrap64 (x7 + 1)) bt200.2.1 bt200.2.2) else (some false))) else (some false)))
end
def consortlaw01_NumReads.f (k : Nat) (a0 : ByteArray) (l1 : List (S39)) : Option (Bool) := (consortlaw01_awake.f k).bind fun t178 => (if t178 = true then (if (a0.size : Int) > 20000 then (consortlaw01_NumReads.j0 k a0 l1 true) else (consortlaw01_NumReads.j0 k a0 l1 (decide ((l1.length : Int) > 300)))) else (some false))
theorem consortlaw01_NumReads.mono_l : ∀ k, (∀ y0 y1 y2, LeO (consortlaw01_NumReads.j0 k y0 y1 y2) (consortlaw01_NumReads.j0 (k + 1) y0 y1 y2)) ∧ (∀ y0 y1 y2 y3 y4 y5, LeO (consortlaw01_NumReads.l0 k y0 y1 y2 y3 y4 y5) (consortlaw01_NumReads.l0 (k + 1) y0 y1 y2 y3 y4 y5)) ∧ (∀ y0 y1 y2 y3 y4 y5 y6 y7 y8 y9 y10 y11, LeO (consortlaw01_NumReads.j2 k y0 y1 y2 y3 y4 y5 y6 y7 y8 y9 y10 y11) (consortlaw01_NumReads.j2 (k + 1) y0 y1 y2 y3 y4 y5 y6 y7 y8 y9 y10 y11)) ∧ (∀ y0 y1 y2 y3 y4 y5 y6, LeO (consortlaw01_NumReads.j3 k y0 y1 y2 y3 y4 y5 y6) (consortlaw01_NumReads.j3 (k + 1) y0 y1 y2 y3 y4 y5 y6))
  | 0 => ⟨fun _ _ _ r h => by simp [consortlaw01_NumReads.j0] at h, fun _ _ _ _ _ _ r h => by simp [consortlaw01_NumReads.l0] at h, fun _ _ _ _ _ _ _ _ _ _ _ _ r h => by simp [consortlaw01_NumReads.j2] at h, fun _ _ _ _ _ _ _ r h => by simp [consortlaw01_NumReads.j3] at h⟩
  | k + 1 => by
    obtain ⟨ih0, ih1, ih2, ih3⟩ := consortlaw01_NumReads.mono_l k
    refine ⟨?_, ?_, ?_, ?_⟩
    · intro y0 y1 y2
      unfold consortlaw01_NumReads.j0
      repeat' first
      | (with_reducible exact ih0 _ _ _)
      | (with_reducible exact ih1 _ _ _ _ _ _)
      | (with_reducible exact ih2 _ _ _ _ _ _ _ _ _ _ _ _)
      | (with_reducible exact ih3 _ _ _ _ _ _ _)
      | (with_reducible exact consortlaw01_awake.mono _)
      | (with_reducible exact consortref01_Num.mono _ _ _ _)
      | (with_reducible exact LeO.refl _)
      | (with_reducible exact LeO.none _)
      | (with_reducible refine LeO.ite ?_ ?_)
      | (with_reducible refine LeO.bind ?_ (fun _ => ?_))
      | exact ih0 _ _ _
      | exact ih1 _ _ _ _ _ _
      | exact ih2 _ _ _ _ _ _ _ _ _ _ _ _
      | exact ih3 _ _ _ _ _ _ _
      | exact consortlaw01_awake.mono _
      | exact consortref01_Num.mono _ _ _ _
      | exact LeO.none _
      | refine LeO.ite ?_ ?_
      | refine LeO.bind ?_ (fun _ => ?_)
    · intro y0 y1 y2 y3 y4 y5
      unfold consortlaw01_NumReads.l0
      repeat' first
      | (with_reducible exact ih0 _ _ _)
      | (with_reducible exact ih1 _ _ _ _ _ _)
      | (with_reducible exact ih2 _ _ _ _ _ _ _ _ _ _ _ _)
      | (with_reducible exact ih3 _ _ _ _ _ _ _)
      | (with_reducible exact consortlaw01_awake.mono _)
      | (with_reducible exact consortref01_Num.mono _ _ _ _)
      | (with_reducible exact LeO.refl _)
      | (with_reducible exact LeO.none _)
      | (with_reducible refine LeO.ite ?_ ?_)
      | (with_reducible refine LeO.bind ?_ (fun _ => ?_))
      | exact ih0 _ _ _
      | exact ih1 _ _ _ _ _ _
      | exact ih2 _ _ _ _ _ _ _ _ _ _ _ _
      | exact ih3 _ _ _ _ _ _ _
      | exact consortlaw01_awake.mono _
      | exact consortref01_Num.mono _ _ _ _
      | exact LeO.none _
      | refine LeO.ite ?_ ?_
      | refine LeO.bind ?_ (fun _ => ?_)
    · intro y0 y1 y2 y3 y4 y5 y6 y7 y8 y9 y10 y11
      unfold consortlaw01_NumReads.j2
      repeat' first
      | (with_reducible exact ih0 _ _ _)
      | (with_reducible exact ih1 _ _ _ _ _ _)
      | (with_reducible exact ih2 _ _ _ _ _ _ _ _ _ _ _ _)
      | (with_reducible exact ih3 _ _ _ _ _ _ _)
      | (with_reducible exact consortlaw01_awake.mono _)
      | (with_reducible exact consortref01_Num.mono _ _ _ _)
      | (with_reducible exact LeO.refl _)
      | (with_reducible exact LeO.none _)
      | (with_reducible refine LeO.ite ?_ ?_)
      | (with_reducible refine LeO.bind ?_ (fun _ => ?_))
      | exact ih0 _ _ _
      | exact ih1 _ _ _ _ _ _
      | exact ih2 _ _ _ _ _ _ _ _ _ _ _ _
      | exact ih3 _ _ _ _ _ _ _
      | exact consortlaw01_awake.mono _
      | exact consortref01_Num.mono _ _ _ _
      | exact LeO.none _
      | refine LeO.ite ?_ ?_
      | refine LeO.bind ?_ (fun _ => ?_)
    · intro y0 y1 y2 y3 y4 y5 y6
      unfold consortlaw01_NumReads.j3
      repeat' first
      | (with_reducible exact ih0 _ _ _)
      | (with_reducible exact ih1 _ _ _ _ _ _)
      | (with_reducible exact ih2 _ _ _ _ _ _ _ _ _ _ _ _)
      | (with_reducible exact ih3 _ _ _ _ _ _ _)
      | (with_reducible exact consortlaw01_awake.mono _)
      | (with_reducible exact consortref01_Num.mono _ _ _ _)
      | (with_reducible exact LeO.refl _)
      | (with_reducible exact LeO.none _)
      | (with_reducible refine LeO.ite ?_ ?_)
      | (with_reducible refine LeO.bind ?_ (fun _ => ?_))
      | exact ih0 _ _ _
      | exact ih1 _ _ _ _ _ _
      | exact ih2 _ _ _ _ _ _ _ _ _ _ _ _
      | exact ih3 _ _ _ _ _ _ _
      | exact consortlaw01_awake.mono _
      | exact consortref01_Num.mono _ _ _ _
      | exact LeO.none _
      | refine LeO.ite ?_ ?_
      | refine LeO.bind ?_ (fun _ => ?_)
theorem consortlaw01_NumReads.mono : ∀ a0 a1 k, LeO (consortlaw01_NumReads.f k a0 a1) (consortlaw01_NumReads.f (k + 1) a0 a1) := by
  intro a0 a1 k
  obtain ⟨ih0, ih1, ih2, ih3⟩ := consortlaw01_NumReads.mono_l k
  unfold consortlaw01_NumReads.f
  repeat' first
      | (with_reducible exact ih0 _ _ _)
      | (with_reducible exact ih1 _ _ _ _ _ _)
      | (with_reducible exact ih2 _ _ _ _ _ _ _ _ _ _ _ _)
      | (with_reducible exact ih3 _ _ _ _ _ _ _)
      | (with_reducible exact consortlaw01_awake.mono _)
      | (with_reducible exact consortref01_Num.mono _ _ _ _)
      | (with_reducible exact LeO.refl _)
      | (with_reducible exact LeO.none _)
      | (with_reducible refine LeO.ite ?_ ?_)
      | (with_reducible refine LeO.bind ?_ (fun _ => ?_))
      | exact ih0 _ _ _
      | exact ih1 _ _ _ _ _ _
      | exact ih2 _ _ _ _ _ _ _ _ _ _ _ _
      | exact ih3 _ _ _ _ _ _ _
      | exact consortlaw01_awake.mono _
      | exact consortref01_Num.mono _ _ _ _
      | exact LeO.none _
      | refine LeO.ite ?_ ?_
      | refine LeO.bind ?_ (fun _ => ?_)
set_option maxHeartbeats 8000000 in
set_option maxRecDepth 100000 in
theorem consortlaw01_NumReads.calls (k : Nat) (a0 : ByteArray) (A1 : Option Addr) (c1 : Nat) (l1 : List (S39)) (w : World) (hr1 : Kd.C k39 w A1 l1.length l1) (hc1 : l1.length ≤ c1) (h : consortlaw01_NumReads.f k a0 l1 = some true) :
    Calls Try.prog 6 #[.string a0, .slice A1 l1.length c1] w fun e w' => e = .returned (.bool true) ∧ Below w.heap.size w w' := by
  have hu39 := Try.underlying39
  have HR1 := Aside0.mk hr1
  have HC1 := Aside0.mk hc1
  clear hr1 hc1
  have HB := Aside0.mk (Below.refl w.heap.size w)
  have H : ((consortlaw01_awake.f k).bind fun t178 => (if t178 = true then (if (a0.size : Int) > 20000 then (consortlaw01_NumReads.j0 k a0 l1 true) else (consortlaw01_NumReads.j0 k a0 l1 (decide ((l1.length : Int) > 300)))) else (some false))) = some true := h
  clear h
  replace H := Option.bind_eq_some_iff.mp H
  obtain ⟨t178, A30, H⟩ := H
  replace H : (if t178 = true then (if (a0.size : Int) > 20000 then (consortlaw01_NumReads.j0 k a0 l1 true) else (consortlaw01_NumReads.j0 k a0 l1 (decide ((l1.length : Int) > 300)))) else (some false)) = some true := H
  have A3 := Aside0.mk A30
  clear A30
  by_cases c4 : t178 = true
  · subst c4
    have H1 : (if (a0.size : Int) > 20000 then (consortlaw01_NumReads.j0 k a0 l1 true) else (consortlaw01_NumReads.j0 k a0 l1 (decide ((l1.length : Int) > 300)))) = some true := by first | (rw [if_pos rfl] at H; done) | (rw [if_pos rfl] at H; exact H)
    clear H
    have H := H1
    clear H1
    have HC5 := Aside0.mk H
    clear H
    go_enter Try.func6, Try.ntmps6
    go_upto_region 3 with (first | ((with_reducible refine gate_callee (f := 8) rfl ?_); refine goesL_ (some 15) rfl rfl Try.func8 (by kernel_rfl) rfl #[] rfl (by (try simp only [List.map_toArray, List.map_cons, List.map_nil]); first | done | rfl | (simp only [List.length_drop, List.length_take]; rfl)) ?_; (with_reducible refine (consortlaw01_awake.calls k  true _ A3.out).mono ?_); rintro e w6 ⟨rfl, hb⟩; refine ⟨_, rfl, ?_⟩; have n0_ := Aside0.mk (below_step (by repeat (first | (with_reducible first | exact HB.out | apply below_alloc | apply pw_below_drewN | apply below_drew1) | exact HB.out)) hb); clear HB; have HB := n0_; clear n0_; (try clear hb); (try clear hb2); (try clear hk); (try clear hi)))
    (try simp only [Act.put, List.setIfInBounds_toArray, List.set_cons_zero, List.set_cons_succ])
    go_cut [24] (fun v24 wc => ∃ (kq : Nat) (x24_4 : Bool), v24 = .bool x24_4 ∧ Aside0 (consortlaw01_NumReads.j0 kq a0 l1 x24_4 = some true) ∧ Aside0 (kq ≤ k) ∧ Aside0 (Below w.heap.size w wc))
    case first =>
      have H := HC5.out
      clear HC5
      by_cases c7 : (a0.size : Int) > 20000
      · rw [if_pos c7] at H
        have c7b0 : decide (20000 < (a0.size : Int)) = true := decide_eq_true c7
        have c7b1 : decide (20000 < a0.size) = true := decide_eq_true (by omega)
        clear c7
        (first | rw [c7b0] | (simp only [i64_w, i32_w]; rw [c7b0]) | skip)
        have H' := Aside0.mk H
        clear H
        go_wp2
        go_meet
        case rel => exact ⟨_, (true), (by first | rfl | (simp; done) | (simp [*]; done)), H', ⟨by first | omega | exact Nat.le_refl _⟩, ⟨by repeat (first | (with_reducible first | exact HB.out | apply below_alloc | apply pw_below_drewN | apply below_drew1) | exact HB.out)⟩⟩
      · rw [if_neg c7] at H
        have c7b0 : decide (20000 < (a0.size : Int)) = false := decide_eq_false c7
        have c7b1 : decide (20000 < a0.size) = false := decide_eq_false (by omega)
        clear c7
        (first | rw [c7b0] | (simp only [i64_w, i32_w]; rw [c7b0]) | skip)
        have H' := Aside0.mk H
        clear H
        go_wp2
        go_meet
        case rel => exact ⟨_, (decide ((l1.length : Int) > 300)), (by first | rfl | (simp; done) | (simp [*]; done)), H', ⟨by first | omega | exact Nat.le_refl _⟩, ⟨by repeat (first | (with_reducible first | exact HB.out | apply below_alloc | apply pw_below_drewN | apply below_drew1) | exact HB.out)⟩⟩
    case rest =>
      clear HC5
      try clear c1
      try clear p2
      try clear c4
      try clear c6
      try clear c7
      try clear c7b0
      try clear c7b1
      obtain ⟨kq, x24_4, rfl, HA, HJ4, HB⟩ := hcut
      cases kq with
      | zero => exact absurd HA.out (by simp [consortlaw01_NumReads.j0])
      | succ kj4 =>
        have H := HA.out
        clear HA
        simp only [consortlaw01_NumReads.j0] at H
        by_cases c8 : x24_4 = true
        · subst c8
          have H1 : (some true) = some true := by first | (rw [if_pos rfl] at H; done) | (rw [if_pos rfl] at H; exact H)
          clear H
          have H := H1
          clear H1
          clear H
          go_wp2
          go_ret
          exact ⟨by first | rfl | (simp [errW_none, errW_some] <;> rfl) | (simp [*, errW_none, errW_some] <;> rfl), by repeat (first | (with_reducible first | exact HB.out | apply below_alloc | apply pw_below_drewN | apply below_drew1) | exact HB.out)⟩
        · replace c8 := Bool.eq_false_iff.mpr c8
          subst c8
          have H1 : ((num_New.f a0).bind fun bt179 => (consortlaw01_NumReads.l0 kj4 a0 l1 0 0 bt179.1 bt179.2)) = some true := by first | (rw [if_neg (show ¬ (false = true) by decide)] at H; done) | (rw [if_neg (show ¬ (false = true) by decide)] at H; exact H)
          clear H
          have H := H1
          clear H1
          replace H := Option.bind_eq_some_iff.mp H
          obtain ⟨⟨t179, t180⟩, A90, H⟩ := H
          replace H : (consortlaw01_NumReads.l0 kj4 a0 l1 0 0 t179 t180) = some true := H
          have A9 := Aside0.mk A90
          clear A90
          have H' := Aside0.mk H
          clear H
          go_wp2_with (first | ((with_reducible refine gate_callee (f := 15) rfl ?_); refine goesL_ (some 26) rfl rfl Try.func15 (by kernel_rfl) rfl #[.string a0] rfl (by (try simp only [List.map_toArray, List.map_cons, List.map_nil]); first | done | rfl | (simp only [List.length_drop, List.length_take]; rfl)) ?_; (with_reducible refine (num_New.calls a0 t179 t180 w _ ?side1 A9.out).mono ?_); (case side1 => repeat (first | (with_reducible first | exact HB.out | apply below_alloc | apply pw_below_drewN | apply below_drew1) | exact HB.out)); rintro e w10 ⟨g181, rfl, hi, hb, hb2⟩; refine ⟨_, rfl, ?_⟩; have n0_ := Aside0.mk (hb); have n1_ := Aside0.mk (hi); clear HB; have HB := n0_; have HI181 := n1_; clear n0_ n1_; (try clear hb); (try clear hb2); (try clear hk); (try clear hi)))
          go_loopg [6, 7] kj4 (fun kq v6 v7 w' => ∃ (x6_2 : Int) (x7_2 : Int) (x182000_2 : ByteArray) (x182001_2 : Int), v6 = .int .i64 x6_2 ∧ v7 = .int .i64 x7_2 ∧ Aside0 (consortlaw01_NumReads.l0 kq a0 l1 x6_2 x7_2 x182000_2 x182001_2 = some true) ∧ Aside0 (kq ≤ kj4) ∧ Aside0 (IsS51 w w' g181 x182000_2 x182001_2) ∧ Aside0 (Below w.heap.size w w'))
          case atStart => exact ⟨(0), (0), (t179), (t180), (by first | rfl | (simp; done) | (simp [*]; done)), (by first | rfl | (simp; done) | (simp [*]; done)), H', ⟨Nat.le_refl _⟩, ⟨by repeat (first | (with_reducible first | exact HI181.out | apply IsS51.alloc | apply IsS51.drewN | apply IsS51.drew | apply IsS51.set_0 | apply IsS51.set_1) | exact HI181.out)⟩, ⟨by repeat (first | (with_reducible first | exact HB.out | apply below_alloc | apply pw_below_drewN | apply below_drew1 | refine below_set ?_ (IsS51.ge HI181.out)) | exact HB.out)⟩⟩
          case round =>
            clear H'
            try clear c1
            try clear p2
            try clear c4
            try clear c6
            try clear c7
            try clear c7b0
            try clear c7b1
            try clear c8
            try clear p2
            obtain ⟨x6_2, x7_2, x182000_2, x182001_2, rfl, rfl, HA, HK2, HI181, HB⟩ := hrel
            cases gk with
            | zero => exact absurd HA.out (by simp [consortlaw01_NumReads.l0])
            | succ k2 =>
              have H := HA.out
              clear HA
              simp only [consortlaw01_NumReads.l0] at H
              by_cases c11 : x7_2 < (l1.length : Int)
              · rw [if_pos c11] at H
                have c11b0 : decide (x7_2 < (l1.length : Int)) = true := decide_eq_true c11
                clear c11
                by_cases c12 : 0 ≤ x7_2
                · rw [if_pos c12] at H
                  have c12b0 : decide (0 ≤ x7_2) = true := decide_eq_true c12
                  clear c12
                  replace H := Option.bind_eq_some_iff.mp H
                  obtain ⟨⟨t183, t184, t185, t186, t187⟩, A130, H⟩ := H
                  replace H : (if (rd_T39 l1 x7_2).f0 = true then ((consortref01_Text.f a0 x6_2 ((rd_T39 l1 x7_2).f1)).bind fun bt190 => (consortlaw01_NumReads.j2 k2 a0 l1 x7_2 t183 t184 t185 0 bt190.1 bt190.2.1 bt190.2.2 t186 t187)) else ((consortref01_Num.f k2 a0 x6_2 ((rd_T39 l1 x7_2).f1)).bind fun bt194 => (consortlaw01_NumReads.j2 k2 a0 l1 x7_2 t183 t184 t185 bt194.1 (⟨#[]⟩ : ByteArray) bt194.2.1 bt194.2.2 t186 t187))) = some true := H
                  have A13 := Aside0.mk A130
                  clear A130
                  have HC14 := Aside0.mk H
                  clear H
                  have p182 : 0 ≤ (x7_2 : Int) := of_decide_eq_true (by first | (with_reducible assumption) | assumption)
                  have q182 : x7_2 < (l1.length : Int) := of_decide_eq_true (by first | (with_reducible assumption) | assumption)
                  obtain ⟨ad182, e182, hx182_0, hx182_1⟩ := at_T39 HR1.out x7_2 p182 q182
                  cases e182
                  replace hx182_0 := (HB.out.cell (World.block_lt_of_cell? w _ hx182_0)).trans hx182_0
                  replace hx182_1 := (HB.out.cell (World.block_lt_of_cell? w _ hx182_1)).trans hx182_1
                  replace p182 := eq_true p182
                  replace q182 := eq_true q182
                  go_upto_if 48 with (first | ((with_reducible refine gate_callee (f := 16) rfl ?_); refine goesL_ (some 39) rfl rfl Try.func16 (by kernel_rfl) rfl #[.pointer (some ⟨g181, 0, none⟩), .agg #[.bool ((rd_T39 l1 x7_2).f0), .int .i64 ((rd_T39 l1 x7_2).f1)]] rfl (by (try simp only [List.map_toArray, List.map_cons, List.map_nil]); first | done | rfl | (simp only [List.length_drop, List.length_take]; rfl)) ?_; (with_reducible refine (consortlaw01_once.calls g181 x182000_2 x182001_2 ((rd_T39 l1 x7_2).f0) ((rd_T39 l1 x7_2).f1) t183 t184 t185 t186 t187 w _ ?side1 ?side2 A13.out).mono ?_); (case side1 => repeat (first | (with_reducible first | exact HI181.out | apply IsS51.alloc | apply IsS51.drewN | apply IsS51.drew | apply IsS51.set_0 | apply IsS51.set_1) | exact HI181.out)); (case side2 => repeat (first | (with_reducible first | exact HB.out | apply below_alloc | apply pw_below_drewN | apply below_drew1 | refine below_set ?_ (IsS51.ge HI181.out)) | exact HB.out)); rintro e w15 ⟨rfl, hi, hb, hk⟩; refine ⟨_, rfl, ?_⟩; have n0_ := Aside0.mk (hb); have n1_ := Aside0.mk (hi); clear HB; clear HI181; have HB := n0_; have HI181 := n1_; clear n0_ n1_; (try clear hb); (try clear hb2); (try clear hk); (try clear hi); have p188 : 0 ≤ (x7_2 : Int) := of_decide_eq_true (by first | (with_reducible assumption) | assumption); have q188 : x7_2 < (l1.length : Int) := of_decide_eq_true (by first | (with_reducible assumption) | assumption); obtain ⟨ad188, e188, hx188_0, hx188_1⟩ := at_T39 HR1.out x7_2 p188 q188; obtain rfl : ad182 = ad188 := (by injection e188); replace hx188_0 := (HB.out.cell (World.block_lt_of_cell? w _ hx188_0)).trans hx188_0; replace hx188_1 := (HB.out.cell (World.block_lt_of_cell? w _ hx188_1)).trans hx188_1; replace p188 := eq_true p188; replace q188 := eq_true q188))
                  (try simp only [Act.put, List.setIfInBounds_toArray, List.set_cons_zero, List.set_cons_succ])
                  go_cut [11, 12, 13, 14] (fun v11 v12 v13 v14 wc => ∃ (kq : Nat) (x11_13 : Int) (x12_13 : ByteArray) (x13_13 : Int) (x14_13 : Bool), v11 = .int .u64 x11_13 ∧ v12 = .string x12_13 ∧ v13 = .int .i64 x13_13 ∧ v14 = .bool x14_13 ∧ Aside0 (consortlaw01_NumReads.j2 kq a0 l1 x7_2 t183 t184 t185 x11_13 x12_13 x13_13 x14_13 t186 t187 = some true) ∧ Aside0 (kq ≤ k2) ∧ Aside0 (IsS51 w wc g181 t186 t187) ∧ Aside0 (Below w.heap.size w wc))
                  case first =>
                    have H := HC14.out
                    clear HC14
                    obtain ⟨bq16, hbq16⟩ : ∃ b_ : Bool, b_ = ((rd_T39 l1 x7_2).f0) := ⟨_, rfl⟩
                    replace H : (if bq16 = true then ((consortref01_Text.f a0 x6_2 ((rd_T39 l1 x7_2).f1)).bind fun bt190 => (consortlaw01_NumReads.j2 k2 a0 l1 x7_2 t183 t184 t185 0 bt190.1 bt190.2.1 bt190.2.2 t186 t187)) else ((consortref01_Num.f k2 a0 x6_2 ((rd_T39 l1 x7_2).f1)).bind fun bt194 => (consortlaw01_NumReads.j2 k2 a0 l1 x7_2 t183 t184 t185 bt194.1 (⟨#[]⟩ : ByteArray) bt194.2.1 bt194.2.2 t186 t187))) = some true := by rw [← hbq16] at H; exact H
                    have Nbq16 := Aside0.mk hbq16
                    clear hbq16
                    (try rw [← Nbq16.out])
                    by_cases c17 : bq16 = true
                    · subst c17
                      have H1 : ((consortref01_Text.f a0 x6_2 ((rd_T39 l1 x7_2).f1)).bind fun bt190 => (consortlaw01_NumReads.j2 k2 a0 l1 x7_2 t183 t184 t185 0 bt190.1 bt190.2.1 bt190.2.2 t186 t187)) = some true := by first | (rw [if_pos rfl] at H; done) | (rw [if_pos rfl] at H; exact H)
                      clear H
                      have H := H1
                      clear H1
                      replace H := Option.bind_eq_some_iff.mp H
                      obtain ⟨⟨t190, t191, t192⟩, A180, H⟩ := H
                      replace H : (consortlaw01_NumReads.j2 k2 a0 l1 x7_2 t183 t184 t185 0 t190 t191 t192 t186 t187) = some true := H
                      have A18 := Aside0.mk A180
                      clear A180
                      have H' := Aside0.mk H
                      clear H
                      have p189 : 0 ≤ (x7_2 : Int) := of_decide_eq_true (by first | (with_reducible assumption) | assumption)
                      have q189 : x7_2 < (l1.length : Int) := of_decide_eq_true (by first | (with_reducible assumption) | assumption)
                      obtain ⟨ad189, e189, hx189_0, hx189_1⟩ := at_T39 HR1.out x7_2 p189 q189
                      (try rw [← Nbq16.out] at hx189_0)
                      obtain rfl : ad182 = ad189 := (by injection e189)
                      replace hx189_0 := (HB.out.cell (World.block_lt_of_cell? w _ hx189_0)).trans hx189_0
                      replace hx189_1 := (HB.out.cell (World.block_lt_of_cell? w _ hx189_1)).trans hx189_1
                      replace p189 := eq_true p189
                      replace q189 := eq_true q189
                      go_wp2_with (first | ((with_reducible refine gate_callee (f := 17) rfl ?_); refine goesL_ (some 57) rfl rfl Try.func17 (by kernel_rfl) rfl #[.string a0, .int .i64 x6_2, .int .i64 ((rd_T39 l1 x7_2).f1)] rfl (by (try simp only [List.map_toArray, List.map_cons, List.map_nil]); first | done | rfl | (simp only [List.length_drop, List.length_take]; rfl)) ?_; (with_reducible refine (consortref01_Text.calls a0 x6_2 ((rd_T39 l1 x7_2).f1) t190 t191 t192 _ A18.out).mono ?_); rintro e w' ⟨rfl, ⟨nd, rfl⟩⟩; refine ⟨_, rfl, ?_⟩))
                      go_meet
                      case rel => exact ⟨_, (0), (t190), (t191), (t192), (by first | rfl | (simp; done) | (simp [*]; done)), (by first | rfl | (simp; done) | (simp [*]; done)), (by first | rfl | (simp; done) | (simp [*]; done)), (by first | rfl | (simp; done) | (simp [*]; done)), H', ⟨by have := HJ4.out; have := HK2.out; first | omega | exact Nat.le_refl _⟩, ⟨by repeat (first | (with_reducible first | exact HI181.out | apply IsS51.alloc | apply IsS51.drewN | apply IsS51.drew | apply IsS51.set_0 | apply IsS51.set_1) | exact HI181.out)⟩, ⟨by repeat (first | (with_reducible first | exact HB.out | apply below_alloc | apply pw_below_drewN | apply below_drew1 | refine below_set ?_ (IsS51.ge HI181.out)) | exact HB.out)⟩⟩
                    · replace c17 := Bool.eq_false_iff.mpr c17
                      subst c17
                      have H1 : ((consortref01_Num.f k2 a0 x6_2 ((rd_T39 l1 x7_2).f1)).bind fun bt194 => (consortlaw01_NumReads.j2 k2 a0 l1 x7_2 t183 t184 t185 bt194.1 (⟨#[]⟩ : ByteArray) bt194.2.1 bt194.2.2 t186 t187)) = some true := by first | (rw [if_neg (show ¬ (false = true) by decide)] at H; done) | (rw [if_neg (show ¬ (false = true) by decide)] at H; exact H)
                      clear H
                      have H := H1
                      clear H1
                      replace H := Option.bind_eq_some_iff.mp H
                      obtain ⟨⟨t194, t195, t196⟩, A190, H⟩ := H
                      replace H : (consortlaw01_NumReads.j2 k2 a0 l1 x7_2 t183 t184 t185 t194 (⟨#[]⟩ : ByteArray) t195 t196 t186 t187) = some true := H
                      have A19 := Aside0.mk A190
                      clear A190
                      have H' := Aside0.mk H
                      clear H
                      have p193 : 0 ≤ (x7_2 : Int) := of_decide_eq_true (by first | (with_reducible assumption) | assumption)
                      have q193 : x7_2 < (l1.length : Int) := of_decide_eq_true (by first | (with_reducible assumption) | assumption)
                      obtain ⟨ad193, e193, hx193_0, hx193_1⟩ := at_T39 HR1.out x7_2 p193 q193
                      (try rw [← Nbq16.out] at hx193_0)
                      obtain rfl : ad182 = ad193 := (by injection e193)
                      replace hx193_0 := (HB.out.cell (World.block_lt_of_cell? w _ hx193_0)).trans hx193_0
                      replace hx193_1 := (HB.out.cell (World.block_lt_of_cell? w _ hx193_1)).trans hx193_1
                      replace p193 := eq_true p193
                      replace q193 := eq_true q193
                      go_wp2_with (first | ((with_reducible refine gate_callee (f := 18) rfl ?_); refine goesL_ (some 69) rfl rfl Try.func18 (by kernel_rfl) rfl #[.string a0, .int .i64 x6_2, .int .i64 ((rd_T39 l1 x7_2).f1)] rfl (by (try simp only [List.map_toArray, List.map_cons, List.map_nil]); first | done | rfl | (simp only [List.length_drop, List.length_take]; rfl)) ?_; (with_reducible refine (consortref01_Num.calls k2 a0 x6_2 ((rd_T39 l1 x7_2).f1) t194 t195 t196 _ A19.out).mono ?_); rintro e w' ⟨rfl, ⟨nd, rfl⟩⟩; refine ⟨_, rfl, ?_⟩))
                      go_meet
                      case rel => exact ⟨_, (t194), ((⟨#[]⟩ : ByteArray)), (t195), (t196), (by first | rfl | (simp; done) | (simp [*]; done)), (by first | rfl | (simp; done) | (simp [*]; done)), (by first | rfl | (simp; done) | (simp [*]; done)), (by first | rfl | (simp; done) | (simp [*]; done)), H', ⟨by have := HJ4.out; have := HK2.out; first | omega | exact Nat.le_refl _⟩, ⟨by repeat (first | (with_reducible first | exact HI181.out | apply IsS51.alloc | apply IsS51.drewN | apply IsS51.drew | apply IsS51.set_0 | apply IsS51.set_1) | exact HI181.out)⟩, ⟨by repeat (first | (with_reducible first | exact HB.out | apply below_alloc | apply pw_below_drewN | apply below_drew1 | refine below_set ?_ (IsS51.ge HI181.out)) | exact HB.out)⟩⟩
                  case rest =>
                    clear HC14
                    try clear c1
                    try clear p1
                    try clear q1
                    try clear hx1
                    try clear p2
                    try clear c4
                    try clear c6
                    try clear c7
                    try clear c7b0
                    try clear c7b1
                    try clear c8
                    try clear c11
                    try clear c11b0
                    try clear c12
                    try clear c12b0
                    try clear c15
                    try clear c16
                    try clear q16
                    try clear c17
                    try clear c18
                    try clear p18
                    try clear q18
                    try clear hx18
                    try clear p19
                    try clear q19
                    try clear hx19
                    try clear hx182_0
                    try clear hx182_1
                    try clear hx188_0
                    try clear hx188_1
                    try clear hx189_0
                    try clear hx189_1
                    try clear hx193_0
                    try clear hx193_1
                    try clear p182
                    try clear p188
                    try clear p189
                    try clear p193
                    try clear p2
                    try clear q182
                    try clear q188
                    try clear q189
                    try clear q193
                    obtain ⟨kq, x11_13, x12_13, x13_13, x14_13, rfl, rfl, rfl, rfl, HA, HJ13, HI181, HB⟩ := hcut
                    cases kq with
                    | zero => exact absurd HA.out (by simp [consortlaw01_NumReads.j2])
                    | succ kj13 =>
                      have H := HA.out
                      clear HA
                      simp only [consortlaw01_NumReads.j2] at H
                      have HC20 := Aside0.mk H
                      clear H
                      go_upto_region 17 with (fail)
                      go_cut [88] (fun v88 wc => ∃ (kq : Nat) (x88_19 : Bool), v88 = .bool x88_19 ∧ Aside0 (consortlaw01_NumReads.j3 kq a0 l1 x7_2 x13_13 x88_19 t186 t187 = some true) ∧ Aside0 (kq ≤ kj13) ∧ Aside0 (IsS51 w wc g181 t186 t187) ∧ Aside0 (Below w.heap.size w wc))
                      case first =>
                        have H := HC20.out
                        clear HC20
                        by_cases c21 : (t185 != x14_13) = true
                        · rw [if_pos c21] at H
                          have c21b0 : (t185 != x14_13) = true := c21
                          (try (have c21b1 : decide (t185 = x14_13) = false := by simpa using c21))
                          (try (have c21b2 : (t185 == x14_13) = false := by simpa using c21))
                          (try (have c21b3 : ¬ (t185 = x14_13) := by simpa using c21))
                          clear c21
                          (first | rw [c21b0] | (simp only [i64_w, i32_w]; rw [c21b0]) | skip)
                          have H' := Aside0.mk H
                          clear H
                          go_wp2
                          go_meet
                          case rel => exact ⟨_, (true), (by first | rfl | (simp; done) | (simp [*]; done)), H', ⟨by have := HJ4.out; have := HK2.out; have := HJ13.out; first | omega | exact Nat.le_refl _⟩, ⟨by repeat (first | (with_reducible first | exact HI181.out | apply IsS51.alloc | apply IsS51.drewN | apply IsS51.drew | apply IsS51.set_0 | apply IsS51.set_1) | exact HI181.out)⟩, ⟨by repeat (first | (with_reducible first | exact HB.out | apply below_alloc | apply pw_below_drewN | apply below_drew1 | refine below_set ?_ (IsS51.ge HI181.out)) | exact HB.out)⟩⟩
                        · rw [if_neg c21] at H
                          have c21b0 : (t185 != x14_13) = false := by simpa using c21
                          (try (have c21b1 : decide (t185 = x14_13) = true := by simpa using c21))
                          (try (have c21b2 : (t185 == x14_13) = true := by simpa using c21))
                          clear c21
                          (first | rw [c21b0] | (simp only [i64_w, i32_w]; rw [c21b0]) | skip)
                          by_cases c22 : t185 = true
                          · subst c22
                            have H1 : (if t183 = x11_13 then (consortlaw01_NumReads.j3 kj13 a0 l1 x7_2 x13_13 (t184.toList != x12_13.toList) t186 t187) else (consortlaw01_NumReads.j3 kj13 a0 l1 x7_2 x13_13 true t186 t187)) = some true := by first | (rw [if_pos rfl] at H; done) | (rw [if_pos rfl] at H; exact H)
                            clear H
                            have H := H1
                            clear H1
                            by_cases c23 : t183 = x11_13
                            · rw [if_pos c23] at H
                              have c23b0 : (t183 == x11_13) = true := beq_iff_eq.mpr c23
                              have c23b1 : (t183 != x11_13) = false := bne_eq_false_iff_eq.mpr c23
                              clear c23
                              have H' := Aside0.mk H
                              clear H
                              go_wp2
                              go_meet
                              case rel => exact ⟨_, ((t184.toList != x12_13.toList)), (by first | rfl | (simp; done) | (simp [*]; done)), H', ⟨by have := HJ4.out; have := HK2.out; have := HJ13.out; first | omega | exact Nat.le_refl _⟩, ⟨by repeat (first | (with_reducible first | exact HI181.out | apply IsS51.alloc | apply IsS51.drewN | apply IsS51.drew | apply IsS51.set_0 | apply IsS51.set_1) | exact HI181.out)⟩, ⟨by repeat (first | (with_reducible first | exact HB.out | apply below_alloc | apply pw_below_drewN | apply below_drew1 | refine below_set ?_ (IsS51.ge HI181.out)) | exact HB.out)⟩⟩
                            · rw [if_neg c23] at H
                              have c23b0 : (t183 == x11_13) = false := beq_eq_false_iff_ne.mpr c23
                              have c23b1 : (t183 != x11_13) = true := bne_iff_ne.mpr c23
                              have H' := Aside0.mk H
                              clear H
                              go_wp2
                              go_meet
                              case rel => exact ⟨_, (true), (by first | rfl | (simp; done) | (simp [*]; done)), H', ⟨by have := HJ4.out; have := HK2.out; have := HJ13.out; first | omega | exact Nat.le_refl _⟩, ⟨by repeat (first | (with_reducible first | exact HI181.out | apply IsS51.alloc | apply IsS51.drewN | apply IsS51.drew | apply IsS51.set_0 | apply IsS51.set_1) | exact HI181.out)⟩, ⟨by repeat (first | (with_reducible first | exact HB.out | apply below_alloc | apply pw_below_drewN | apply below_drew1 | refine below_set ?_ (IsS51.ge HI181.out)) | exact HB.out)⟩⟩
                          · replace c22 := Bool.eq_false_iff.mpr c22
                            subst c22
                            have H1 : (consortlaw01_NumReads.j3 kj13 a0 l1 x7_2 x13_13 false t186 t187) = some true := by first | (rw [if_neg (show ¬ (false = true) by decide)] at H; done) | (rw [if_neg (show ¬ (false = true) by decide)] at H; exact H)
                            clear H
                            have H := H1
                            clear H1
                            have H' := Aside0.mk H
                            clear H
                            go_wp2
                            go_meet
                            case rel => exact ⟨_, (false), (by first | rfl | (simp; done) | (simp [*]; done)), H', ⟨by have := HJ4.out; have := HK2.out; have := HJ13.out; first | omega | exact Nat.le_refl _⟩, ⟨by repeat (first | (with_reducible first | exact HI181.out | apply IsS51.alloc | apply IsS51.drewN | apply IsS51.drew | apply IsS51.set_0 | apply IsS51.set_1) | exact HI181.out)⟩, ⟨by repeat (first | (with_reducible first | exact HB.out | apply below_alloc | apply pw_below_drewN | apply below_drew1 | refine below_set ?_ (IsS51.ge HI181.out)) | exact HB.out)⟩⟩
                      case rest =>
                        clear HC20
                        try clear c1
                        try clear p1
                        try clear q1
                        try clear hx1
                        try clear c2
                        try clear p2
                        try clear c4
                        try clear c6
                        try clear c7
                        try clear c7b0
                        try clear c7b1
                        try clear c8
                        try clear c11
                        try clear c11b0
                        try clear c12
                        try clear c12b0
                        try clear c15
                        try clear c16
                        try clear q16
                        try clear c17
                        try clear c18
                        try clear p18
                        try clear q18
                        try clear hx18
                        try clear p19
                        try clear q19
                        try clear hx19
                        try clear c21
                        try clear c21b0
                        try clear c21b1
                        try clear c21b2
                        try clear c22
                        try clear c23
                        try clear c23b0
                        try clear c23b1
                        try clear hx182_0
                        try clear hx182_1
                        try clear hx188_0
                        try clear hx188_1
                        try clear hx189_0
                        try clear hx189_1
                        try clear hx193_0
                        try clear hx193_1
                        try clear p1
                        try clear p18
                        try clear p182
                        try clear p188
                        try clear p189
                        try clear p19
                        try clear p193
                        try clear p2
                        try clear q1
                        try clear q16
                        try clear q18
                        try clear q182
                        try clear q188
                        try clear q189
                        try clear q19
                        try clear q193
                        obtain ⟨kq, x88_19, rfl, HA, HJ19, HI181, HB⟩ := hcut
                        cases kq with
                        | zero => exact absurd HA.out (by simp [consortlaw01_NumReads.j3])
                        | succ kj19 =>
                          have H := HA.out
                          clear HA
                          simp only [consortlaw01_NumReads.j3] at H
                          by_cases c24 : x88_19 = true
                          · subst c24
                            have H1 : (some false) = some true := by first | (rw [if_pos rfl] at H; done) | (rw [if_pos rfl] at H; exact H)
                            clear H
                            have H := H1
                            clear H1
                            exact absurd H (by simp)
                          · replace c24 := Bool.eq_false_iff.mpr c24
                            subst c24
                            have H1 : ((num_Reader_At.f t186 t187).bind fun bt197 => (if bt197.1 = x13_13 then ((num_Reader_Left.f bt197.2.1 bt197.2.2).bind fun bt200 => (if bt200.1 = (wrap64 ((a0.size : Int) - x13_13)) then (consortlaw01_NumReads.l0 kj19 a0 l1 x13_13 (wrap64 (x7_2 + 1)) bt200.2.1 bt200.2.2) else (some false))) else (some false))) = some true := by first | (rw [if_neg (show ¬ (false = true) by decide)] at H; done) | (rw [if_neg (show ¬ (false = true) by decide)] at H; exact H)
                            clear H
                            have H := H1
                            clear H1
                            replace H := Option.bind_eq_some_iff.mp H
                            obtain ⟨⟨t197, t198, t199⟩, A250, H⟩ := H
                            replace H : (if t197 = x13_13 then ((num_Reader_Left.f t198 t199).bind fun bt200 => (if bt200.1 = (wrap64 ((a0.size : Int) - x13_13)) then (consortlaw01_NumReads.l0 kj19 a0 l1 x13_13 (wrap64 (x7_2 + 1)) bt200.2.1 bt200.2.2) else (some false))) else (some false)) = some true := H
                            have A25 := Aside0.mk A250
                            clear A250
                            by_cases c26 : t197 = x13_13
                            · rw [if_pos c26] at H
                              have c26b0 : (t197 == x13_13) = true := beq_iff_eq.mpr c26
                              have c26b1 : (t197 != x13_13) = false := bne_eq_false_iff_eq.mpr c26
                              clear c26
                              replace H := Option.bind_eq_some_iff.mp H
                              obtain ⟨⟨t200, t201, t202⟩, A270, H⟩ := H
                              replace H : (if t200 = (wrap64 ((a0.size : Int) - x13_13)) then (consortlaw01_NumReads.l0 kj19 a0 l1 x13_13 (wrap64 (x7_2 + 1)) t201 t202) else (some false)) = some true := H
                              have A27 := Aside0.mk A270
                              clear A270
                              by_cases c28 : t200 = (wrap64 ((a0.size : Int) - x13_13))
                              · rw [if_pos c28] at H
                                have c28b0 : (t200 == (wrap64 ((a0.size : Int) - x13_13))) = true := beq_iff_eq.mpr c28
                                have c28b1 : (t200 != (wrap64 ((a0.size : Int) - x13_13))) = false := bne_eq_false_iff_eq.mpr c28
                                clear c28
                                have H' := Aside0.mk H
                                clear H
                                go_wp2_with (first | ((with_reducible refine gate_callee (f := 19) rfl ?_); refine goesL_ (some 91) rfl rfl Try.func19 (by kernel_rfl) rfl #[.pointer (some ⟨g181, 0, none⟩)] rfl (by (try simp only [List.map_toArray, List.map_cons, List.map_nil]); first | done | rfl | (simp only [List.length_drop, List.length_take]; rfl)) ?_; (with_reducible refine (num_Reader_At.calls g181 t186 t187 t197 t198 t199 w _ ?side1 ?side2 A25.out).mono ?_); (case side1 => repeat (first | (with_reducible first | exact HI181.out | apply IsS51.alloc | apply IsS51.drewN | apply IsS51.drew | apply IsS51.set_0 | apply IsS51.set_1) | exact HI181.out)); (case side2 => repeat (first | (with_reducible first | exact HB.out | apply below_alloc | apply pw_below_drewN | apply below_drew1 | refine below_set ?_ (IsS51.ge HI181.out)) | exact HB.out)); rintro e w29 ⟨rfl, hi, hb, hk⟩; refine ⟨_, rfl, ?_⟩; have n0_ := Aside0.mk (hb); have n1_ := Aside0.mk (hi); clear HB; clear HI181; have HB := n0_; have HI181 := n1_; clear n0_ n1_; (try clear hb); (try clear hb2); (try clear hk); (try clear hi)) | (go_at_call 20; (with_reducible refine (num_Reader_Left.calls g181 t198 t199 t200 t201 t202 w _ ?side1 ?side2 A27.out).mono ?_); (case side1 => repeat (first | (with_reducible first | exact HI181.out | apply IsS51.alloc | apply IsS51.drewN | apply IsS51.drew | apply IsS51.set_0 | apply IsS51.set_1) | exact HI181.out)); (case side2 => repeat (first | (with_reducible first | exact HB.out | apply below_alloc | apply pw_below_drewN | apply below_drew1 | refine below_set ?_ (IsS51.ge HI181.out)) | exact HB.out)); rintro e w30 ⟨rfl, hi, hb, hk⟩; have n0_ := Aside0.mk (hb); have n1_ := Aside0.mk (hi); clear HB; clear HI181; have HB := n0_; have HI181 := n1_; clear n0_ n1_; (try clear hb); (try clear hb2); (try clear hk); (try clear hi)))
                                go_roundg kj19
                                case measure => have := HJ4.out; have := HK2.out; have := HJ13.out; have := HJ19.out; omega
                                case rel => exact ⟨(x13_13), (wrap64 (x7_2 + 1)), (t201), (t202), (by first | rfl | (simp; done) | (simp [*]; done)), (by first | rfl | (simp; done) | (simp [*]; done)), H', ⟨by have := HJ4.out; have := HK2.out; have := HJ13.out; have := HJ19.out; omega⟩, ⟨by repeat (first | (with_reducible first | exact HI181.out | apply IsS51.alloc | apply IsS51.drewN | apply IsS51.drew | apply IsS51.set_0 | apply IsS51.set_1) | exact HI181.out)⟩, ⟨by repeat (first | (with_reducible first | exact HB.out | apply below_alloc | apply pw_below_drewN | apply below_drew1 | refine below_set ?_ (IsS51.ge HI181.out)) | exact HB.out)⟩⟩
                              · rw [if_neg c28] at H
                                have c28b0 : (t200 == (wrap64 ((a0.size : Int) - x13_13))) = false := beq_eq_false_iff_ne.mpr c28
                                have c28b1 : (t200 != (wrap64 ((a0.size : Int) - x13_13))) = true := bne_iff_ne.mpr c28
                                exact absurd H (by simp)
                            · rw [if_neg c26] at H
                              have c26b0 : (t197 == x13_13) = false := beq_eq_false_iff_ne.mpr c26
                              have c26b1 : (t197 != x13_13) = true := bne_iff_ne.mpr c26
                              exact absurd H (by simp)
                · rw [if_neg c12] at H
                  exact absurd H (by simp)
              · rw [if_neg c11] at H
                have c11b0 : decide (x7_2 < (l1.length : Int)) = false := decide_eq_false c11
                clear c11
                clear H
                go_wp2
                go_ret
                exact ⟨by first | rfl | (simp [errW_none, errW_some] <;> rfl) | (simp [*, errW_none, errW_some] <;> rfl), by repeat (first | (with_reducible first | exact HB.out | apply below_alloc | apply pw_below_drewN | apply below_drew1 | refine below_set ?_ (IsS51.ge HI181.out)) | exact HB.out)⟩
  · replace c4 := Bool.eq_false_iff.mpr c4
    subst c4
    have H1 : (some false) = some true := by first | (rw [if_neg (show ¬ (false = true) by decide)] at H; done) | (rw [if_neg (show ¬ (false = true) by decide)] at H; exact H)
    clear H
    have H := H1
    clear H1
    exact absurd H (by simp)

end Go.Proofs.Ytjolbpfileiipaa.P
