-- Written by our own program (wip/pr) over the kit's print.py, with contracts of our own.
import Derived.Test.YtgpldjckohlkfaaPSx0
import Derived.Test.YtgpldjckohlkfaaPSx1
namespace Go.Proofs.Ytgpldjckohlkfaa.PS
open Go.RowKit Go.Proofs.YtgpldjckohlkfaaW.PrintWords Go.Proofs.YtgpldjckohlkfaaW.PrintLast Go.Proofs.YtgpldjckohlkfaaW.PrintMore
attribute [local go_sem] max2_int min2_int max_two min_two max_three min_three max_four min_four   -- for this text's walks alone
set_option linter.unusedVariables false
set_option linter.unusedSimpArgs false

attribute [local go_sem high] eqA33
/-! ### consortref18_Views: function 21 -/
def consortref18_Views.l0 : Nat → List (S33) → List (S33) → Int → Option (Bool)
  | 0, _, _, _ => none
  | k + 1, x0, x1, x5 => if x5 < (x0.length : Int) then (if 0 ≤ x5 then (if x5 < (x1.length : Int) then (if (!(((rd_T33 x0 x5).f0) == ((rd_T33 x1 x5).f0)) || ((!(((rd_T33 x0 x5).f1.f0) == ((rd_T33 x1 x5).f1.f0)) || (!(((rd_T33 x0 x5).f1.f1) == ((rd_T33 x1 x5).f1.f1)))) || (!(((rd_T33 x0 x5).f2) == ((rd_T33 x1 x5).f2))))) = true then (some false) else (consortref18_Views.l0 k x0 x1 (wrap64 (x5 + 1)))) else (none)) else (none)) else (some true)
def consortref18_Views.f (k : Nat) (l0 : List (S33)) (l1 : List (S33)) : Option (Bool) := if (l0.length : Int) = (l1.length : Int) then (consortref18_Views.l0 k l0 l1 0) else (some false)
theorem consortref18_Views.mono_l : ∀ k, (∀ y0 y1 y2, LeO (consortref18_Views.l0 k y0 y1 y2) (consortref18_Views.l0 (k + 1) y0 y1 y2))
  | 0 => fun _ _ _ r h => by simp [consortref18_Views.l0] at h
  | k + 1 => by
    have ih0 := consortref18_Views.mono_l k
    · intro y0 y1 y2
      unfold consortref18_Views.l0
      repeat' first
      | (with_reducible exact ih0 _ _ _)
      | (with_reducible exact LeO.refl _)
      | (with_reducible exact LeO.none _)
      | (with_reducible refine LeO.ite ?_ ?_)
      | (with_reducible refine LeO.bind ?_ (fun _ => ?_))
      | exact ih0 _ _ _
      | exact LeO.none _
      | refine LeO.ite ?_ ?_
      | refine LeO.bind ?_ (fun _ => ?_)
theorem consortref18_Views.mono : ∀ a0 a1 k, LeO (consortref18_Views.f k a0 a1) (consortref18_Views.f (k + 1) a0 a1) := by
  intro a0 a1 k
  have ih0 := consortref18_Views.mono_l k
  unfold consortref18_Views.f
  repeat' first
      | (with_reducible exact ih0 _ _ _)
      | (with_reducible exact LeO.refl _)
      | (with_reducible exact LeO.none _)
      | (with_reducible refine LeO.ite ?_ ?_)
      | (with_reducible refine LeO.bind ?_ (fun _ => ?_))
      | exact ih0 _ _ _
      | exact LeO.none _
      | refine LeO.ite ?_ ?_
      | refine LeO.bind ?_ (fun _ => ?_)
set_option maxHeartbeats 8000000 in
set_option maxRecDepth 100000 in
theorem consortref18_Views.calls (k : Nat) (A0 : Option Addr) (c0 : Nat) (l0 : List (S33)) (A1 : Option Addr) (c1 : Nat) (l1 : List (S33)) (r : Bool) (w : World) (hr0 : Kd.C k33 w A0 l0.length l0) (hc0 : l0.length ≤ c0) (hr1 : Kd.C k33 w A1 l1.length l1) (hc1 : l1.length ≤ c1) (h : consortref18_Views.f k l0 l1 = some r) :
    Calls Try.prog 21 #[.slice A0 l0.length c0, .slice A1 l1.length c1] w fun e w' => e = .returned (.bool r) ∧ Drawn0 w w' := by
  have hu33 := Try.underlying33
  have HR0 := Aside0.mk hr0
  have HC0 := Aside0.mk hc0
  clear hr0 hc0
  have HR1 := Aside0.mk hr1
  have HC1 := Aside0.mk hc1
  clear hr1 hc1
  have H : (if (l0.length : Int) = (l1.length : Int) then (consortref18_Views.l0 k l0 l1 0) else (some false)) = some r := h
  clear h
  by_cases c3 : (l0.length : Int) = (l1.length : Int)
  · rw [if_pos c3] at H
    have c3b0 : ((l0.length : Int) == (l1.length : Int)) = true := beq_iff_eq.mpr c3
    have c3b1 : ((l0.length : Int) != (l1.length : Int)) = false := bne_eq_false_iff_eq.mpr c3
    have c3b2 : (l0.length == l1.length) = true := by first | simpa using c3 | (simp at c3 ⊢; omega)
    clear c3
    have H' := Aside0.mk H
    clear H
    go_enter Try.func21, Try.ntmps21
    go_wp2
    repeat (go_quiet (fail); try go_wp2)
    go_loopg [5] k (fun kq v5 w' => ∃ (x5_1 : Int), v5 = .int .i64 x5_1 ∧ Aside0 (consortref18_Views.l0 kq l0 l1 x5_1 = some r) ∧ Aside0 (kq ≤ k) ∧ Drawn0 w w')
    case atStart => exact ⟨(0), (by first | rfl | (simp; done) | (simp [*]; done)), H', ⟨Nat.le_refl _⟩, by repeat (first | exact Drawn0.refl _ | apply Drawn0.step)⟩
    case round =>
      clear H'
      try clear c1
      try clear c2
      try clear p2
      try clear c3
      try clear c3b0
      try clear c3b1
      try clear c3b2
      obtain ⟨x5_1, rfl, HA, HK1, ⟨m1, rfl⟩⟩ := hrel
      cases gk with
      | zero => exact absurd HA.out (by simp [consortref18_Views.l0])
      | succ k1 =>
        have H := HA.out
        clear HA
        simp only [consortref18_Views.l0] at H
        by_cases c4 : x5_1 < (l0.length : Int)
        · rw [if_pos c4] at H
          have c4b0 : decide (x5_1 < (l0.length : Int)) = true := decide_eq_true c4
          clear c4
          by_cases c5 : 0 ≤ x5_1
          · rw [if_pos c5] at H
            have c5b0 : decide (0 ≤ x5_1) = true := decide_eq_true c5
            clear c5
            by_cases c6 : x5_1 < (l1.length : Int)
            · rw [if_pos c6] at H
              have c6b0 : decide (x5_1 < (l1.length : Int)) = true := decide_eq_true c6
              clear c6
              by_cases c7 : (!(((rd_T33 l0 x5_1).f0) == ((rd_T33 l1 x5_1).f0)) || ((!(((rd_T33 l0 x5_1).f1.f0) == ((rd_T33 l1 x5_1).f1.f0)) || (!(((rd_T33 l0 x5_1).f1.f1) == ((rd_T33 l1 x5_1).f1.f1)))) || (!(((rd_T33 l0 x5_1).f2) == ((rd_T33 l1 x5_1).f2))))) = true
              · rw [if_pos c7] at H
                have c7b0 : (!(((rd_T33 l0 x5_1).f0) == ((rd_T33 l1 x5_1).f0)) || ((!(((rd_T33 l0 x5_1).f1.f0) == ((rd_T33 l1 x5_1).f1.f0)) || (!(((rd_T33 l0 x5_1).f1.f1) == ((rd_T33 l1 x5_1).f1.f1)))) || (!(((rd_T33 l0 x5_1).f2) == ((rd_T33 l1 x5_1).f2))))) = true := c7
                clear c7
                obtain rfl := Option.some.inj H
                have p101 : 0 ≤ (x5_1 : Int) := of_decide_eq_true (by first | (with_reducible assumption) | assumption)
                have q101 : x5_1 < (l0.length : Int) := of_decide_eq_true (by first | (with_reducible assumption) | assumption)
                obtain ⟨ad101, e101, hx101_0, hx101_1, hx101_2, hx101_3⟩ := at_T33 HR0.out x5_1 p101 q101
                cases e101
                replace p101 := eq_true p101
                replace q101 := eq_true q101
                have p102 : 0 ≤ (x5_1 : Int) := of_decide_eq_true (by first | (with_reducible assumption) | assumption)
                have q102 : x5_1 < (l1.length : Int) := of_decide_eq_true (by first | (with_reducible assumption) | assumption)
                obtain ⟨ad102, e102, hx102_0, hx102_1, hx102_2, hx102_3⟩ := at_T33 HR1.out x5_1 p102 q102
                cases e102
                replace p102 := eq_true p102
                replace q102 := eq_true q102
                go_wp2
                repeat (go_quiet (fail); try go_wp2)
                go_ret
                exact ⟨by first | rfl | (simp; done) | (simp [*]; done), by repeat (first | exact Drawn0.refl _ | apply Drawn0.step)⟩
              · rw [if_neg c7] at H
                have c7b0 : (!(((rd_T33 l0 x5_1).f0) == ((rd_T33 l1 x5_1).f0)) || ((!(((rd_T33 l0 x5_1).f1.f0) == ((rd_T33 l1 x5_1).f1.f0)) || (!(((rd_T33 l0 x5_1).f1.f1) == ((rd_T33 l1 x5_1).f1.f1)))) || (!(((rd_T33 l0 x5_1).f2) == ((rd_T33 l1 x5_1).f2))))) = false := by simpa using c7
                clear c7
                have H' := Aside0.mk H
                clear H
                have p101 : 0 ≤ (x5_1 : Int) := of_decide_eq_true (by first | (with_reducible assumption) | assumption)
                have q101 : x5_1 < (l0.length : Int) := of_decide_eq_true (by first | (with_reducible assumption) | assumption)
                obtain ⟨ad101, e101, hx101_0, hx101_1, hx101_2, hx101_3⟩ := at_T33 HR0.out x5_1 p101 q101
                cases e101
                replace p101 := eq_true p101
                replace q101 := eq_true q101
                have p102 : 0 ≤ (x5_1 : Int) := of_decide_eq_true (by first | (with_reducible assumption) | assumption)
                have q102 : x5_1 < (l1.length : Int) := of_decide_eq_true (by first | (with_reducible assumption) | assumption)
                obtain ⟨ad102, e102, hx102_0, hx102_1, hx102_2, hx102_3⟩ := at_T33 HR1.out x5_1 p102 q102
                cases e102
                replace p102 := eq_true p102
                replace q102 := eq_true q102
                go_wp2
                repeat (go_quiet (fail); try go_wp2)
                go_roundg k1
                case measure => have := HK1.out; omega
                case rel => exact ⟨(wrap64 (x5_1 + 1)), (by first | rfl | (simp; done) | (simp [*]; done)), H', ⟨by have := HK1.out; omega⟩, by repeat (first | exact Drawn0.refl _ | apply Drawn0.step)⟩
            · rw [if_neg c6] at H
              exact absurd H (by simp)
          · rw [if_neg c5] at H
            exact absurd H (by simp)
        · rw [if_neg c4] at H
          have c4b0 : decide (x5_1 < (l0.length : Int)) = false := decide_eq_false c4
          clear c4
          obtain rfl := Option.some.inj H
          go_wp2
          repeat (go_quiet (fail); try go_wp2)
          go_ret
          exact ⟨by first | rfl | (simp; done) | (simp [*]; done), by repeat (first | exact Drawn0.refl _ | apply Drawn0.step)⟩
  · rw [if_neg c3] at H
    have c3b0 : ((l0.length : Int) == (l1.length : Int)) = false := beq_eq_false_iff_ne.mpr c3
    have c3b1 : ((l0.length : Int) != (l1.length : Int)) = true := bne_iff_ne.mpr c3
    have c3b2 : (l0.length == l1.length) = false := by first | simpa using c3 | (simp at c3 ⊢; omega)
    obtain rfl := Option.some.inj H
    go_enter Try.func21, Try.ntmps21
    go_wp2
    repeat (go_quiet (fail); try go_wp2)
    go_ret
    exact ⟨by first | rfl | (simp; done) | (simp [*]; done), by repeat (first | exact Drawn0.refl _ | apply Drawn0.step)⟩

/-! ### consortref18_Same: function 17 -/
def consortref18_Same.f (k : Nat) (a0_0 : Int) (a0_1 : Int) (a0_2 : Int) (a0_3 : Int) (l0_4 : List (S33)) (a1_0 : Int) (a1_1 : Int) (a1_2 : Int) (a1_3 : Int) (l1_4 : List (S33)) : Option (Bool) := if (a0_0 == a1_0 && ((a0_1 == a1_1 && (a0_2 == a1_2)) && (a0_3 == a1_3))) = true then ((consortref18_Views.f k l0_4 l1_4).bind fun t105 => (some t105)) else (some false)
theorem consortref18_Same.mono : ∀ a0 a1 a2 a3 a4 a5 a6 a7 a8 a9 k, LeO (consortref18_Same.f k a0 a1 a2 a3 a4 a5 a6 a7 a8 a9) (consortref18_Same.f (k + 1) a0 a1 a2 a3 a4 a5 a6 a7 a8 a9) := by
  intro a0 a1 a2 a3 a4 a5 a6 a7 a8 a9 k
  unfold consortref18_Same.f
  repeat' first
      | (with_reducible exact consortref18_Views.mono _ _ _)
      | (with_reducible exact LeO.refl _)
      | (with_reducible exact LeO.none _)
      | (with_reducible refine LeO.ite ?_ ?_)
      | (with_reducible refine LeO.bind ?_ (fun _ => ?_))
      | exact consortref18_Views.mono _ _ _
      | exact LeO.none _
      | refine LeO.ite ?_ ?_
      | refine LeO.bind ?_ (fun _ => ?_)
set_option maxHeartbeats 8000000 in
set_option maxRecDepth 100000 in
theorem consortref18_Same.calls (k : Nat) (a0_0 : Int) (a0_1 : Int) (a0_2 : Int) (a0_3 : Int) (A0_4 : Option Addr) (c0_4 : Nat) (l0_4 : List (S33)) (a1_0 : Int) (a1_1 : Int) (a1_2 : Int) (a1_3 : Int) (A1_4 : Option Addr) (c1_4 : Nat) (l1_4 : List (S33)) (r : Bool) (w : World) (hr0_4 : Kd.C k33 w A0_4 l0_4.length l0_4) (hc0_4 : l0_4.length ≤ c0_4) (hr1_4 : Kd.C k33 w A1_4 l1_4.length l1_4) (hc1_4 : l1_4.length ≤ c1_4) (h : consortref18_Same.f k a0_0 a0_1 a0_2 a0_3 l0_4 a1_0 a1_1 a1_2 a1_3 l1_4 = some r) :
    Calls Try.prog 17 #[.agg #[.int .u64 a0_0, .int .u64 a0_1, .int .i64 a0_2, .int .u64 a0_3, .slice A0_4 l0_4.length c0_4], .agg #[.int .u64 a1_0, .int .u64 a1_1, .int .i64 a1_2, .int .u64 a1_3, .slice A1_4 l1_4.length c1_4]] w fun e w' => e = .returned (.bool r) ∧ Below w.heap.size w w' := by
  have hu36 := Try.underlying36
  have hu33 := Try.underlying33
  have HR0_4 := Aside0.mk hr0_4
  have HC0_4 := Aside0.mk hc0_4
  clear hr0_4 hc0_4
  have HR1_4 := Aside0.mk hr1_4
  have HC1_4 := Aside0.mk hc1_4
  clear hr1_4 hc1_4
  have HB := Aside0.mk (Below.refl w.heap.size w)
  have H : (if (a0_0 == a1_0 && ((a0_1 == a1_1 && (a0_2 == a1_2)) && (a0_3 == a1_3))) = true then ((consortref18_Views.f k l0_4 l1_4).bind fun t105 => (some t105)) else (some false)) = some r := h
  clear h
  by_cases c3 : (a0_0 == a1_0 && ((a0_1 == a1_1 && (a0_2 == a1_2)) && (a0_3 == a1_3))) = true
  · rw [if_pos c3] at H
    have c3b0 : (a0_0 == a1_0 && ((a0_1 == a1_1 && (a0_2 == a1_2)) && (a0_3 == a1_3))) = true := c3
    (try (have c3b1 : decide (a0_0 = a1_0 && ((a0_1 == a1_1 && (a0_2 == a1_2)) && (a0_3 == a1_3))) = true := by simpa using c3))
    (try (have c3b2 : (a0_0 == a1_0 && ((a0_1 == a1_1 && (a0_2 == a1_2)) && (a0_3 == a1_3))) = true := by simpa using c3))
    clear c3
    replace H := Option.bind_eq_some_iff.mp H
    obtain ⟨t105, A40, H⟩ := H
    replace H : (some t105) = some r := H
    have A4 := Aside0.mk A40
    clear A40
    obtain rfl := Option.some.inj H
    go_enter Try.func17, Try.ntmps17
    go_wp2_with (first | ((with_reducible refine gate_dst (N := 2) rfl ?_); refine box_event ?hg (N := 2) ?hd (cs := #[.int .u64 a0_0, .int .u64 a0_1, .int .i64 a0_2, .int .u64 a0_3, .slice A0_4 l0_4.length c0_4]) (t := 36) ?hr ?_; (case hd => rfl); (case hg => rfl); (case hr => first | (go_simp; done) | (go_simp; rfl)); intro gb103 hg w5 hbox hb; have n0_ := Aside0.mk (below_step (by repeat (first | (with_reducible first | exact HB.out | apply below_alloc | apply pw_below_drewN | apply below_drew1) | exact HB.out)) hb); have n1_ := Aside0.mk (hbox); have n2_ := Aside0.mk ((by rw [hg]; exact (below_size (by repeat (first | (with_reducible first | exact HB.out | apply below_alloc | apply pw_below_drewN | apply below_drew1) | exact HB.out))) : w.heap.size ≤ gb103)); have n3_ := Aside0.mk ((by rw [hg]; exact (below_size (by repeat (first | (with_reducible first | exact HB.out | apply below_alloc | apply pw_below_drewN | apply below_drew1) | exact HB.out))) : w.heap.size ≤ gb103)); clear HB; have HB := n0_; have BK103 := n1_; have GW103 := n2_; have GE103 := n3_; clear n0_ n1_ n2_ n3_; clear hb hbox hg) | ((with_reducible refine gate_dst (N := 3) rfl ?_); refine box_event ?hg (N := 3) ?hd (cs := #[.int .u64 a1_0, .int .u64 a1_1, .int .i64 a1_2, .int .u64 a1_3, .slice A1_4 l1_4.length c1_4]) (t := 36) ?hr ?_; (case hd => rfl); (case hg => rfl); (case hr => first | (go_simp; done) | (go_simp; rfl)); intro gb104 hg w6 hbox hb; have n0_ := Aside0.mk (blk_below (g := gb103) (o := .cells #[.int .u64 a0_0, .int .u64 a0_1, .int .i64 a0_2, .int .u64 a0_3, .slice A0_4 l0_4.length c0_4] 36 (0, 0)) (by (with_reducible repeat (first | refine blk_drewN ?_ _ | refine blk_drew ?_ | refine blk_alloc ?_ _)); exact BK103.out) hb); have n1_ := Aside0.mk (below_step (by repeat (first | (with_reducible first | exact HB.out | apply below_alloc | apply pw_below_drewN | apply below_drew1 | refine below_set ?_ GE103.out) | exact HB.out)) hb); have n2_ := Aside0.mk (hbox); have n3_ := Aside0.mk ((by rw [hg]; exact (below_size (by repeat (first | (with_reducible first | exact HB.out | apply below_alloc | apply pw_below_drewN | apply below_drew1 | refine below_set ?_ GE103.out) | exact HB.out))) : w.heap.size ≤ gb104)); have n4_ := Aside0.mk ((by rw [hg]; exact (below_size (by repeat (first | (with_reducible first | exact HB.out | apply below_alloc | apply pw_below_drewN | apply below_drew1 | refine below_set ?_ GE103.out) | exact HB.out))) : w.heap.size ≤ gb104)); have n5_ := Aside0.mk ((by rw [hg]; exact Nat.ne_of_lt (blk_lt (g := gb103) (o := .cells #[.int .u64 a0_0, .int .u64 a0_1, .int .i64 a0_2, .int .u64 a0_3, .slice A0_4 l0_4.length c0_4] 36 (0, 0)) (by (with_reducible repeat (first | refine blk_drewN ?_ _ | refine blk_drew ?_ | refine blk_alloc ?_ _)); exact BK103.out)) : gb103 ≠ gb104)); have n6_ := Aside0.mk ((by rw [hg]; exact Nat.ne_of_gt (blk_lt (g := gb103) (o := .cells #[.int .u64 a0_0, .int .u64 a0_1, .int .i64 a0_2, .int .u64 a0_3, .slice A0_4 l0_4.length c0_4] 36 (0, 0)) (by (with_reducible repeat (first | refine blk_drewN ?_ _ | refine blk_drew ?_ | refine blk_alloc ?_ _)); exact BK103.out)) : gb104 ≠ gb103)); clear BK103; clear HB; have BK103 := n0_; have HB := n1_; have BK104 := n2_; have GW104 := n3_; have GE104 := n4_; have NB103_104 := n5_; have NB104_103 := n6_; clear n0_ n1_ n2_ n3_ n4_ n5_ n6_; clear hb hbox hg; have hnb7 := NB103_104.out; have hnc7 := NB104_103.out; have hcz8_0 : w6.cell? ⟨gb103, 0, none⟩ = some (.int .u64 a0_0) := (blk_cell BK103.out 0).trans rfl; have hcz8_1 : w6.cell? ⟨gb103, 1, none⟩ = some (.int .u64 a0_1) := (blk_cell BK103.out 1).trans rfl; have hcz8_2 : w6.cell? ⟨gb103, 2, none⟩ = some (.int .i64 a0_2) := (blk_cell BK103.out 2).trans rfl; have hcz8_3 : w6.cell? ⟨gb103, 3, none⟩ = some (.int .u64 a0_3) := (blk_cell BK103.out 3).trans rfl; have hcz8_4 : w6.cell? ⟨gb103, 4, none⟩ = some (.slice A0_4 l0_4.length c0_4) := (blk_cell BK103.out 4).trans rfl; have hfz8_0 := blk_frozen BK103.out 0; have hfz8_1 := blk_frozen BK103.out 1; have hfz8_2 := blk_frozen BK103.out 2; have hfz8_3 := blk_frozen BK103.out 3; have hfz8_4 := blk_frozen BK103.out 4; have hcz9_0 : w6.cell? ⟨gb104, 0, none⟩ = some (.int .u64 a1_0) := (blk_cell BK104.out 0).trans rfl; have hcz9_1 : w6.cell? ⟨gb104, 1, none⟩ = some (.int .u64 a1_1) := (blk_cell BK104.out 1).trans rfl; have hcz9_2 : w6.cell? ⟨gb104, 2, none⟩ = some (.int .i64 a1_2) := (blk_cell BK104.out 2).trans rfl; have hcz9_3 : w6.cell? ⟨gb104, 3, none⟩ = some (.int .u64 a1_3) := (blk_cell BK104.out 3).trans rfl; have hcz9_4 : w6.cell? ⟨gb104, 4, none⟩ = some (.slice A1_4 l1_4.length c1_4) := (blk_cell BK104.out 4).trans rfl; have hfz9_0 := blk_frozen BK104.out 0; have hfz9_1 := blk_frozen BK104.out 1; have hfz9_2 := blk_frozen BK104.out 2; have hfz9_3 := blk_frozen BK104.out 3; have hfz9_4 := blk_frozen BK104.out 4) | (go_at_call 21; (with_reducible refine (consortref18_Views.calls k _ _ l0_4 _ _ l1_4 t105 _ ?side1 ?side2 ?side3 ?side4 A4.out).mono ?_); (case side1 => repeat (first | exact (Kd.C_below HR0_4.out HB.out) | (with_reducible refine Kd.C_alloc ?_ _) | (with_reducible refine Kd.C_drewN ?_ _) | (with_reducible refine Kd.C_drew ?_))); (case side2 => exact HC0_4.out); (case side3 => repeat (first | exact (Kd.C_below HR1_4.out HB.out) | (with_reducible refine Kd.C_alloc ?_ _) | (with_reducible refine Kd.C_drewN ?_ _) | (with_reducible refine Kd.C_drew ?_))); (case side4 => exact HC1_4.out); rintro e w' ⟨rfl, ⟨nd, rfl⟩⟩))
    go_ret
    exact ⟨by first | rfl | (simp [errW_none, errW_some] <;> rfl) | (simp [*, errW_none, errW_some] <;> rfl), by repeat (first | (with_reducible first | exact HB.out | apply below_alloc | apply pw_below_drewN | apply below_drew1 | refine below_set ?_ GE103.out | refine below_set ?_ GE104.out) | exact HB.out)⟩
  · rw [if_neg c3] at H
    have c3b0 : (a0_0 == a1_0 && ((a0_1 == a1_1 && (a0_2 == a1_2)) && (a0_3 == a1_3))) = false := by simpa using c3
    (try (have c3b1 : decide (a0_0 = a1_0 && ((a0_1 == a1_1 && (a0_2 == a1_2)) && (a0_3 == a1_3))) = false := by simpa using c3))
    (try (have c3b2 : (a0_0 == a1_0 && ((a0_1 == a1_1 && (a0_2 == a1_2)) && (a0_3 == a1_3))) = false := by simpa using c3))
    (try (have c3b3 : ¬ (a0_0 = a1_0 && ((a0_1 == a1_1 && (a0_2 == a1_2)) && (a0_3 == a1_3))) := by simpa using c3))
    clear c3
    obtain rfl := Option.some.inj H
    go_enter Try.func17, Try.ntmps17
    go_wp2_with (first | ((with_reducible refine gate_dst (N := 2) rfl ?_); refine box_event ?hg (N := 2) ?hd (cs := #[.int .u64 a0_0, .int .u64 a0_1, .int .i64 a0_2, .int .u64 a0_3, .slice A0_4 l0_4.length c0_4]) (t := 36) ?hr ?_; (case hd => rfl); (case hg => rfl); (case hr => first | (go_simp; done) | (go_simp; rfl)); intro gb103 hg w10 hbox hb; have n0_ := Aside0.mk (below_step (by repeat (first | (with_reducible first | exact HB.out | apply below_alloc | apply pw_below_drewN | apply below_drew1) | exact HB.out)) hb); have n1_ := Aside0.mk (hbox); have n2_ := Aside0.mk ((by rw [hg]; exact (below_size (by repeat (first | (with_reducible first | exact HB.out | apply below_alloc | apply pw_below_drewN | apply below_drew1) | exact HB.out))) : w.heap.size ≤ gb103)); have n3_ := Aside0.mk ((by rw [hg]; exact (below_size (by repeat (first | (with_reducible first | exact HB.out | apply below_alloc | apply pw_below_drewN | apply below_drew1) | exact HB.out))) : w.heap.size ≤ gb103)); clear HB; have HB := n0_; have BK103 := n1_; have GW103 := n2_; have GE103 := n3_; clear n0_ n1_ n2_ n3_; clear hb hbox hg) | ((with_reducible refine gate_dst (N := 3) rfl ?_); refine box_event ?hg (N := 3) ?hd (cs := #[.int .u64 a1_0, .int .u64 a1_1, .int .i64 a1_2, .int .u64 a1_3, .slice A1_4 l1_4.length c1_4]) (t := 36) ?hr ?_; (case hd => rfl); (case hg => rfl); (case hr => first | (go_simp; done) | (go_simp; rfl)); intro gb104 hg w11 hbox hb; have n0_ := Aside0.mk (blk_below (g := gb103) (o := .cells #[.int .u64 a0_0, .int .u64 a0_1, .int .i64 a0_2, .int .u64 a0_3, .slice A0_4 l0_4.length c0_4] 36 (0, 0)) (by (with_reducible repeat (first | refine blk_drewN ?_ _ | refine blk_drew ?_ | refine blk_alloc ?_ _)); exact BK103.out) hb); have n1_ := Aside0.mk (below_step (by repeat (first | (with_reducible first | exact HB.out | apply below_alloc | apply pw_below_drewN | apply below_drew1 | refine below_set ?_ GE103.out) | exact HB.out)) hb); have n2_ := Aside0.mk (hbox); have n3_ := Aside0.mk ((by rw [hg]; exact (below_size (by repeat (first | (with_reducible first | exact HB.out | apply below_alloc | apply pw_below_drewN | apply below_drew1 | refine below_set ?_ GE103.out) | exact HB.out))) : w.heap.size ≤ gb104)); have n4_ := Aside0.mk ((by rw [hg]; exact (below_size (by repeat (first | (with_reducible first | exact HB.out | apply below_alloc | apply pw_below_drewN | apply below_drew1 | refine below_set ?_ GE103.out) | exact HB.out))) : w.heap.size ≤ gb104)); have n5_ := Aside0.mk ((by rw [hg]; exact Nat.ne_of_lt (blk_lt (g := gb103) (o := .cells #[.int .u64 a0_0, .int .u64 a0_1, .int .i64 a0_2, .int .u64 a0_3, .slice A0_4 l0_4.length c0_4] 36 (0, 0)) (by (with_reducible repeat (first | refine blk_drewN ?_ _ | refine blk_drew ?_ | refine blk_alloc ?_ _)); exact BK103.out)) : gb103 ≠ gb104)); have n6_ := Aside0.mk ((by rw [hg]; exact Nat.ne_of_gt (blk_lt (g := gb103) (o := .cells #[.int .u64 a0_0, .int .u64 a0_1, .int .i64 a0_2, .int .u64 a0_3, .slice A0_4 l0_4.length c0_4] 36 (0, 0)) (by (with_reducible repeat (first | refine blk_drewN ?_ _ | refine blk_drew ?_ | refine blk_alloc ?_ _)); exact BK103.out)) : gb104 ≠ gb103)); clear BK103; clear HB; have BK103 := n0_; have HB := n1_; have BK104 := n2_; have GW104 := n3_; have GE104 := n4_; have NB103_104 := n5_; have NB104_103 := n6_; clear n0_ n1_ n2_ n3_ n4_ n5_ n6_; clear hb hbox hg; have hnb12 := NB103_104.out; have hnc12 := NB104_103.out; have hcz13_0 : w11.cell? ⟨gb103, 0, none⟩ = some (.int .u64 a0_0) := (blk_cell BK103.out 0).trans rfl; have hcz13_1 : w11.cell? ⟨gb103, 1, none⟩ = some (.int .u64 a0_1) := (blk_cell BK103.out 1).trans rfl; have hcz13_2 : w11.cell? ⟨gb103, 2, none⟩ = some (.int .i64 a0_2) := (blk_cell BK103.out 2).trans rfl; have hcz13_3 : w11.cell? ⟨gb103, 3, none⟩ = some (.int .u64 a0_3) := (blk_cell BK103.out 3).trans rfl; have hcz13_4 : w11.cell? ⟨gb103, 4, none⟩ = some (.slice A0_4 l0_4.length c0_4) := (blk_cell BK103.out 4).trans rfl; have hfz13_0 := blk_frozen BK103.out 0; have hfz13_1 := blk_frozen BK103.out 1; have hfz13_2 := blk_frozen BK103.out 2; have hfz13_3 := blk_frozen BK103.out 3; have hfz13_4 := blk_frozen BK103.out 4; have hcz14_0 : w11.cell? ⟨gb104, 0, none⟩ = some (.int .u64 a1_0) := (blk_cell BK104.out 0).trans rfl; have hcz14_1 : w11.cell? ⟨gb104, 1, none⟩ = some (.int .u64 a1_1) := (blk_cell BK104.out 1).trans rfl; have hcz14_2 : w11.cell? ⟨gb104, 2, none⟩ = some (.int .i64 a1_2) := (blk_cell BK104.out 2).trans rfl; have hcz14_3 : w11.cell? ⟨gb104, 3, none⟩ = some (.int .u64 a1_3) := (blk_cell BK104.out 3).trans rfl; have hcz14_4 : w11.cell? ⟨gb104, 4, none⟩ = some (.slice A1_4 l1_4.length c1_4) := (blk_cell BK104.out 4).trans rfl; have hfz14_0 := blk_frozen BK104.out 0; have hfz14_1 := blk_frozen BK104.out 1; have hfz14_2 := blk_frozen BK104.out 2; have hfz14_3 := blk_frozen BK104.out 3; have hfz14_4 := blk_frozen BK104.out 4))
    go_ret
    exact ⟨by first | rfl | (simp [errW_none, errW_some] <;> rfl) | (simp [*, errW_none, errW_some] <;> rfl), by repeat (first | (with_reducible first | exact HB.out | apply below_alloc | apply pw_below_drewN | apply below_drew1 | refine below_set ?_ GE103.out | refine below_set ?_ GE104.out) | exact HB.out)⟩

/-! ### consortref19_Items: function 9 -/
def consortref19_Items.f (k : Nat) (a0_0 : Int) (a0_1 : ByteArray) (a0_2 : Int) (a0_3 : Int) (a0_4 : Bool) (a0_5 : Bool) (a0_6 : Int) (a0_7 : Int) (a0_8 : Int) (a0_9 : Int) (l0_10 : List (S33)) (a0_11 : Int) (a0_12 : Int) (a0_13 : Int) (a0_14 : Int) (a0_15 : Int) (a0_16 : Int) (a0_17 : Int) (a1_0 : Int) (a1_1 : ByteArray) (a1_2 : Int) (a1_3 : Int) (a1_4 : Bool) (a1_5 : Bool) (a1_6 : Int) (a1_7 : Int) (a1_8 : Int) (a1_9 : Int) (l1_10 : List (S33)) (a1_11 : Int) (a1_12 : Int) (a1_13 : Int) (a1_14 : Int) (a1_15 : Int) (a1_16 : Int) (a1_17 : Int) : Option (Bool) := if a0_0 = a1_0 then (if a0_1.toList = a1_1.toList then (if a0_2 = a1_2 then (if a0_3 = a1_3 then (if (a0_4 == a1_4) = true then (if (a0_5 == a1_5) = true then ((consortref18_Same.f k a0_6 a0_7 a0_8 a0_9 l0_10 a1_6 a1_7 a1_8 a1_9 l1_10).bind fun t108 => (if t108 = true then (if (a0_11 == a1_11 && ((a0_12 == a1_12 && (a0_13 == a1_13)) && (a0_14 == a1_14))) = true then (if a0_15 = a1_15 then (if a0_16 = a1_16 then (some (a0_17 == a1_17)) else (some false)) else (some false)) else (some false)) else (some false))) else (some false)) else (some false)) else (some false)) else (some false)) else (some false)) else (some false)
theorem consortref19_Items.mono : ∀ a0 a1 a2 a3 a4 a5 a6 a7 a8 a9 a10 a11 a12 a13 a14 a15 a16 a17 a18 a19 a20 a21 a22 a23 a24 a25 a26 a27 a28 a29 a30 a31 a32 a33 a34 a35 k, LeO (consortref19_Items.f k a0 a1 a2 a3 a4 a5 a6 a7 a8 a9 a10 a11 a12 a13 a14 a15 a16 a17 a18 a19 a20 a21 a22 a23 a24 a25 a26 a27 a28 a29 a30 a31 a32 a33 a34 a35) (consortref19_Items.f (k + 1) a0 a1 a2 a3 a4 a5 a6 a7 a8 a9 a10 a11 a12 a13 a14 a15 a16 a17 a18 a19 a20 a21 a22 a23 a24 a25 a26 a27 a28 a29 a30 a31 a32 a33 a34 a35) := by
  intro a0 a1 a2 a3 a4 a5 a6 a7 a8 a9 a10 a11 a12 a13 a14 a15 a16 a17 a18 a19 a20 a21 a22 a23 a24 a25 a26 a27 a28 a29 a30 a31 a32 a33 a34 a35 k
  unfold consortref19_Items.f
  repeat' first
      | (with_reducible exact consortref18_Same.mono _ _ _ _ _ _ _ _ _ _ _)
      | (with_reducible exact LeO.refl _)
      | (with_reducible exact LeO.none _)
      | (with_reducible refine LeO.ite ?_ ?_)
      | (with_reducible refine LeO.bind ?_ (fun _ => ?_))
      | exact consortref18_Same.mono _ _ _ _ _ _ _ _ _ _ _
      | exact LeO.none _
      | refine LeO.ite ?_ ?_
      | refine LeO.bind ?_ (fun _ => ?_)
set_option maxHeartbeats 8000000 in
set_option maxRecDepth 100000 in
theorem consortref19_Items.calls (k : Nat) (a0_0 : Int) (a0_1 : ByteArray) (a0_2 : Int) (a0_3 : Int) (a0_4 : Bool) (a0_5 : Bool) (a0_6 : Int) (a0_7 : Int) (a0_8 : Int) (a0_9 : Int) (A0_10 : Option Addr) (c0_10 : Nat) (l0_10 : List (S33)) (a0_11 : Int) (a0_12 : Int) (a0_13 : Int) (a0_14 : Int) (a0_15 : Int) (a0_16 : Int) (a0_17 : Int) (a1_0 : Int) (a1_1 : ByteArray) (a1_2 : Int) (a1_3 : Int) (a1_4 : Bool) (a1_5 : Bool) (a1_6 : Int) (a1_7 : Int) (a1_8 : Int) (a1_9 : Int) (A1_10 : Option Addr) (c1_10 : Nat) (l1_10 : List (S33)) (a1_11 : Int) (a1_12 : Int) (a1_13 : Int) (a1_14 : Int) (a1_15 : Int) (a1_16 : Int) (a1_17 : Int) (w : World) (hr0_10 : Kd.C k33 w A0_10 l0_10.length l0_10) (hc0_10 : l0_10.length ≤ c0_10) (hr1_10 : Kd.C k33 w A1_10 l1_10.length l1_10) (hc1_10 : l1_10.length ≤ c1_10) (h : consortref19_Items.f k a0_0 a0_1 a0_2 a0_3 a0_4 a0_5 a0_6 a0_7 a0_8 a0_9 l0_10 a0_11 a0_12 a0_13 a0_14 a0_15 a0_16 a0_17 a1_0 a1_1 a1_2 a1_3 a1_4 a1_5 a1_6 a1_7 a1_8 a1_9 l1_10 a1_11 a1_12 a1_13 a1_14 a1_15 a1_16 a1_17 = some true) :
    Calls Try.prog 9 #[.agg #[.int .i64 a0_0, .string a0_1, .int .u32 a0_2, .int .u64 a0_3, .bool a0_4, .bool a0_5, .int .u64 a0_6, .int .u64 a0_7, .int .i64 a0_8, .int .u64 a0_9, .slice A0_10 l0_10.length c0_10, .int .u64 a0_11, .int .u64 a0_12, .int .i64 a0_13, .int .u64 a0_14, .int .u64 a0_15, .int .i64 a0_16, .int .i64 a0_17], .agg #[.int .i64 a1_0, .string a1_1, .int .u32 a1_2, .int .u64 a1_3, .bool a1_4, .bool a1_5, .int .u64 a1_6, .int .u64 a1_7, .int .i64 a1_8, .int .u64 a1_9, .slice A1_10 l1_10.length c1_10, .int .u64 a1_11, .int .u64 a1_12, .int .i64 a1_13, .int .u64 a1_14, .int .u64 a1_15, .int .i64 a1_16, .int .i64 a1_17]] w fun e w' => e = .returned (.bool true) ∧ Below w.heap.size w w' := by
  have hu38 := Try.underlying38
  have hu36 := Try.underlying36
  have hu33 := Try.underlying33
  have HR0_10 := Aside0.mk hr0_10
  have HC0_10 := Aside0.mk hc0_10
  clear hr0_10 hc0_10
  have HR1_10 := Aside0.mk hr1_10
  have HC1_10 := Aside0.mk hc1_10
  clear hr1_10 hc1_10
  have HB := Aside0.mk (Below.refl w.heap.size w)
  have H : (if a0_0 = a1_0 then (if a0_1.toList = a1_1.toList then (if a0_2 = a1_2 then (if a0_3 = a1_3 then (if (a0_4 == a1_4) = true then (if (a0_5 == a1_5) = true then ((consortref18_Same.f k a0_6 a0_7 a0_8 a0_9 l0_10 a1_6 a1_7 a1_8 a1_9 l1_10).bind fun t108 => (if t108 = true then (if (a0_11 == a1_11 && ((a0_12 == a1_12 && (a0_13 == a1_13)) && (a0_14 == a1_14))) = true then (if a0_15 = a1_15 then (if a0_16 = a1_16 then (some (a0_17 == a1_17)) else (some false)) else (some false)) else (some false)) else (some false))) else (some false)) else (some false)) else (some false)) else (some false)) else (some false)) else (some false)) = some true := h
  clear h
  by_cases c3 : a0_0 = a1_0
  · rw [if_pos c3] at H
    have c3b0 : (a0_0 == a1_0) = true := beq_iff_eq.mpr c3
    have c3b1 : (a0_0 != a1_0) = false := bne_eq_false_iff_eq.mpr c3
    clear c3
    by_cases c4 : a0_1.toList = a1_1.toList
    · rw [if_pos c4] at H
      have c4b0 : (a0_1.toList == a1_1.toList) = true := beq_iff_eq.mpr c4
      have c4b1 : (a0_1.toList != a1_1.toList) = false := bne_eq_false_iff_eq.mpr c4
      clear c4
      by_cases c5 : a0_2 = a1_2
      · rw [if_pos c5] at H
        have c5b0 : (a0_2 == a1_2) = true := beq_iff_eq.mpr c5
        have c5b1 : (a0_2 != a1_2) = false := bne_eq_false_iff_eq.mpr c5
        clear c5
        by_cases c6 : a0_3 = a1_3
        · rw [if_pos c6] at H
          have c6b0 : (a0_3 == a1_3) = true := beq_iff_eq.mpr c6
          have c6b1 : (a0_3 != a1_3) = false := bne_eq_false_iff_eq.mpr c6
          clear c6
          by_cases c7 : (a0_4 == a1_4) = true
          · rw [if_pos c7] at H
            have c7b0 : (a0_4 == a1_4) = true := c7
            (try (have c7b1 : decide (a0_4 = a1_4) = true := by simpa using c7))
            (try (have c7b2 : (a0_4 == a1_4) = true := by simpa using c7))
            clear c7
            by_cases c8 : (a0_5 == a1_5) = true
            · rw [if_pos c8] at H
              have c8b0 : (a0_5 == a1_5) = true := c8
              (try (have c8b1 : decide (a0_5 = a1_5) = true := by simpa using c8))
              (try (have c8b2 : (a0_5 == a1_5) = true := by simpa using c8))
              clear c8
              replace H := Option.bind_eq_some_iff.mp H
              obtain ⟨t108, A90, H⟩ := H
              replace H : (if t108 = true then (if (a0_11 == a1_11 && ((a0_12 == a1_12 && (a0_13 == a1_13)) && (a0_14 == a1_14))) = true then (if a0_15 = a1_15 then (if a0_16 = a1_16 then (some (a0_17 == a1_17)) else (some false)) else (some false)) else (some false)) else (some false)) = some true := H
              have A9 := Aside0.mk A90
              clear A90
              by_cases c10 : t108 = true
              · subst c10
                have H1 : (if (a0_11 == a1_11 && ((a0_12 == a1_12 && (a0_13 == a1_13)) && (a0_14 == a1_14))) = true then (if a0_15 = a1_15 then (if a0_16 = a1_16 then (some (a0_17 == a1_17)) else (some false)) else (some false)) else (some false)) = some true := by first | (rw [if_pos rfl] at H; done) | (rw [if_pos rfl] at H; exact H)
                clear H
                have H := H1
                clear H1
                by_cases c11 : (a0_11 == a1_11 && ((a0_12 == a1_12 && (a0_13 == a1_13)) && (a0_14 == a1_14))) = true
                · rw [if_pos c11] at H
                  have c11b0 : (a0_11 == a1_11 && ((a0_12 == a1_12 && (a0_13 == a1_13)) && (a0_14 == a1_14))) = true := c11
                  (try (have c11b1 : decide (a0_11 = a1_11 && ((a0_12 == a1_12 && (a0_13 == a1_13)) && (a0_14 == a1_14))) = true := by simpa using c11))
                  (try (have c11b2 : (a0_11 == a1_11 && ((a0_12 == a1_12 && (a0_13 == a1_13)) && (a0_14 == a1_14))) = true := by simpa using c11))
                  clear c11
                  by_cases c12 : a0_15 = a1_15
                  · rw [if_pos c12] at H
                    have c12b0 : (a0_15 == a1_15) = true := beq_iff_eq.mpr c12
                    have c12b1 : (a0_15 != a1_15) = false := bne_eq_false_iff_eq.mpr c12
                    clear c12
                    by_cases c13 : a0_16 = a1_16
                    · rw [if_pos c13] at H
                      have c13b0 : (a0_16 == a1_16) = true := beq_iff_eq.mpr c13
                      have c13b1 : (a0_16 != a1_16) = false := bne_eq_false_iff_eq.mpr c13
                      clear c13
                      have hres_ : ((a0_17 == a1_17)) = true := Option.some.inj H
                      go_enter Try.func9, Try.ntmps9
                      go_wp2_with (first | ((with_reducible refine gate_dst (N := 2) rfl ?_); refine box_event ?hg (N := 2) ?hd (cs := #[.int .i64 a0_0, .string a0_1, .int .u32 a0_2, .int .u64 a0_3, .bool a0_4, .bool a0_5, .int .u64 a0_6, .int .u64 a0_7, .int .i64 a0_8, .int .u64 a0_9, .slice A0_10 l0_10.length c0_10, .int .u64 a0_11, .int .u64 a0_12, .int .i64 a0_13, .int .u64 a0_14, .int .u64 a0_15, .int .i64 a0_16, .int .i64 a0_17]) (t := 38) ?hr ?_; (case hd => rfl); (case hg => rfl); (case hr => first | (go_simp; done) | (go_simp; rfl)); intro gb106 hg w14 hbox hb; have n0_ := Aside0.mk (below_step (by repeat (first | (with_reducible first | exact HB.out | apply below_alloc | apply pw_below_drewN | apply below_drew1) | exact HB.out)) hb); have n1_ := Aside0.mk (hbox); have n2_ := Aside0.mk ((by rw [hg]; exact (below_size (by repeat (first | (with_reducible first | exact HB.out | apply below_alloc | apply pw_below_drewN | apply below_drew1) | exact HB.out))) : w.heap.size ≤ gb106)); have n3_ := Aside0.mk ((by rw [hg]; exact (below_size (by repeat (first | (with_reducible first | exact HB.out | apply below_alloc | apply pw_below_drewN | apply below_drew1) | exact HB.out))) : w.heap.size ≤ gb106)); clear HB; have HB := n0_; have BK106 := n1_; have GW106 := n2_; have GE106 := n3_; clear n0_ n1_ n2_ n3_; clear hb hbox hg) | ((with_reducible refine gate_dst (N := 3) rfl ?_); refine box_event ?hg (N := 3) ?hd (cs := #[.int .i64 a1_0, .string a1_1, .int .u32 a1_2, .int .u64 a1_3, .bool a1_4, .bool a1_5, .int .u64 a1_6, .int .u64 a1_7, .int .i64 a1_8, .int .u64 a1_9, .slice A1_10 l1_10.length c1_10, .int .u64 a1_11, .int .u64 a1_12, .int .i64 a1_13, .int .u64 a1_14, .int .u64 a1_15, .int .i64 a1_16, .int .i64 a1_17]) (t := 38) ?hr ?_; (case hd => rfl); (case hg => rfl); (case hr => first | (go_simp; done) | (go_simp; rfl)); intro gb107 hg w15 hbox hb; have n0_ := Aside0.mk (blk_below (g := gb106) (o := .cells #[.int .i64 a0_0, .string a0_1, .int .u32 a0_2, .int .u64 a0_3, .bool a0_4, .bool a0_5, .int .u64 a0_6, .int .u64 a0_7, .int .i64 a0_8, .int .u64 a0_9, .slice A0_10 l0_10.length c0_10, .int .u64 a0_11, .int .u64 a0_12, .int .i64 a0_13, .int .u64 a0_14, .int .u64 a0_15, .int .i64 a0_16, .int .i64 a0_17] 38 (0, 0)) (by (with_reducible repeat (first | refine blk_drewN ?_ _ | refine blk_drew ?_ | refine blk_alloc ?_ _)); exact BK106.out) hb); have n1_ := Aside0.mk (below_step (by repeat (first | (with_reducible first | exact HB.out | apply below_alloc | apply pw_below_drewN | apply below_drew1 | refine below_set ?_ GE106.out) | exact HB.out)) hb); have n2_ := Aside0.mk (hbox); have n3_ := Aside0.mk ((by rw [hg]; exact (below_size (by repeat (first | (with_reducible first | exact HB.out | apply below_alloc | apply pw_below_drewN | apply below_drew1 | refine below_set ?_ GE106.out) | exact HB.out))) : w.heap.size ≤ gb107)); have n4_ := Aside0.mk ((by rw [hg]; exact (below_size (by repeat (first | (with_reducible first | exact HB.out | apply below_alloc | apply pw_below_drewN | apply below_drew1 | refine below_set ?_ GE106.out) | exact HB.out))) : w.heap.size ≤ gb107)); have n5_ := Aside0.mk ((by rw [hg]; exact Nat.ne_of_lt (blk_lt (g := gb106) (o := .cells #[.int .i64 a0_0, .string a0_1, .int .u32 a0_2, .int .u64 a0_3, .bool a0_4, .bool a0_5, .int .u64 a0_6, .int .u64 a0_7, .int .i64 a0_8, .int .u64 a0_9, .slice A0_10 l0_10.length c0_10, .int .u64 a0_11, .int .u64 a0_12, .int .i64 a0_13, .int .u64 a0_14, .int .u64 a0_15, .int .i64 a0_16, .int .i64 a0_17] 38 (0, 0)) (by (with_reducible repeat (first | refine blk_drewN ?_ _ | refine blk_drew ?_ | refine blk_alloc ?_ _)); exact BK106.out)) : gb106 ≠ gb107)); have n6_ := Aside0.mk ((by rw [hg]; exact Nat.ne_of_gt (blk_lt (g := gb106) (o := .cells #[.int .i64 a0_0, .string a0_1, .int .u32 a0_2, .int .u64 a0_3, .bool a0_4, .bool a0_5, .int .u64 a0_6, .int .u64 a0_7, .int .i64 a0_8, .int .u64 a0_9, .slice A0_10 l0_10.length c0_10, .int .u64 a0_11, .int .u64 a0_12, .int .i64 a0_13, .int .u64 a0_14, .int .u64 a0_15, .int .i64 a0_16, .int .i64 a0_17] 38 (0, 0)) (by (with_reducible repeat (first | refine blk_drewN ?_ _ | refine blk_drew ?_ | refine blk_alloc ?_ _)); exact BK106.out)) : gb107 ≠ gb106)); clear BK106; clear HB; have BK106 := n0_; have HB := n1_; have BK107 := n2_; have GW107 := n3_; have GE107 := n4_; have NB106_107 := n5_; have NB107_106 := n6_; clear n0_ n1_ n2_ n3_ n4_ n5_ n6_; clear hb hbox hg; have hnb16 := NB106_107.out; have hnc16 := NB107_106.out; have hcz17_0 : w15.cell? ⟨gb106, 0, none⟩ = some (.int .i64 a0_0) := (blk_cell BK106.out 0).trans rfl; have hcz17_1 : w15.cell? ⟨gb106, 1, none⟩ = some (.string a0_1) := (blk_cell BK106.out 1).trans rfl; have hcz17_2 : w15.cell? ⟨gb106, 2, none⟩ = some (.int .u32 a0_2) := (blk_cell BK106.out 2).trans rfl; have hcz17_3 : w15.cell? ⟨gb106, 3, none⟩ = some (.int .u64 a0_3) := (blk_cell BK106.out 3).trans rfl; have hcz17_4 : w15.cell? ⟨gb106, 4, none⟩ = some (.bool a0_4) := (blk_cell BK106.out 4).trans rfl; have hcz17_5 : w15.cell? ⟨gb106, 5, none⟩ = some (.bool a0_5) := (blk_cell BK106.out 5).trans rfl; have hcz17_6 : w15.cell? ⟨gb106, 6, none⟩ = some (.int .u64 a0_6) := (blk_cell BK106.out 6).trans rfl; have hcz17_7 : w15.cell? ⟨gb106, 7, none⟩ = some (.int .u64 a0_7) := (blk_cell BK106.out 7).trans rfl; have hcz17_8 : w15.cell? ⟨gb106, 8, none⟩ = some (.int .i64 a0_8) := (blk_cell BK106.out 8).trans rfl; have hcz17_9 : w15.cell? ⟨gb106, 9, none⟩ = some (.int .u64 a0_9) := (blk_cell BK106.out 9).trans rfl; have hcz17_10 : w15.cell? ⟨gb106, 10, none⟩ = some (.slice A0_10 l0_10.length c0_10) := (blk_cell BK106.out 10).trans rfl; have hcz17_11 : w15.cell? ⟨gb106, 11, none⟩ = some (.int .u64 a0_11) := (blk_cell BK106.out 11).trans rfl; have hcz17_12 : w15.cell? ⟨gb106, 12, none⟩ = some (.int .u64 a0_12) := (blk_cell BK106.out 12).trans rfl; have hcz17_13 : w15.cell? ⟨gb106, 13, none⟩ = some (.int .i64 a0_13) := (blk_cell BK106.out 13).trans rfl; have hcz17_14 : w15.cell? ⟨gb106, 14, none⟩ = some (.int .u64 a0_14) := (blk_cell BK106.out 14).trans rfl; have hcz17_15 : w15.cell? ⟨gb106, 15, none⟩ = some (.int .u64 a0_15) := (blk_cell BK106.out 15).trans rfl; have hcz17_16 : w15.cell? ⟨gb106, 16, none⟩ = some (.int .i64 a0_16) := (blk_cell BK106.out 16).trans rfl; have hcz17_17 : w15.cell? ⟨gb106, 17, none⟩ = some (.int .i64 a0_17) := (blk_cell BK106.out 17).trans rfl; have hfz17_0 := blk_frozen BK106.out 0; have hfz17_1 := blk_frozen BK106.out 1; have hfz17_2 := blk_frozen BK106.out 2; have hfz17_3 := blk_frozen BK106.out 3; have hfz17_4 := blk_frozen BK106.out 4; have hfz17_5 := blk_frozen BK106.out 5; have hfz17_6 := blk_frozen BK106.out 6; have hfz17_7 := blk_frozen BK106.out 7; have hfz17_8 := blk_frozen BK106.out 8; have hfz17_9 := blk_frozen BK106.out 9; have hfz17_10 := blk_frozen BK106.out 10; have hfz17_11 := blk_frozen BK106.out 11; have hfz17_12 := blk_frozen BK106.out 12; have hfz17_13 := blk_frozen BK106.out 13; have hfz17_14 := blk_frozen BK106.out 14; have hfz17_15 := blk_frozen BK106.out 15; have hfz17_16 := blk_frozen BK106.out 16; have hfz17_17 := blk_frozen BK106.out 17; have hcz18_0 : w15.cell? ⟨gb107, 0, none⟩ = some (.int .i64 a1_0) := (blk_cell BK107.out 0).trans rfl; have hcz18_1 : w15.cell? ⟨gb107, 1, none⟩ = some (.string a1_1) := (blk_cell BK107.out 1).trans rfl; have hcz18_2 : w15.cell? ⟨gb107, 2, none⟩ = some (.int .u32 a1_2) := (blk_cell BK107.out 2).trans rfl; have hcz18_3 : w15.cell? ⟨gb107, 3, none⟩ = some (.int .u64 a1_3) := (blk_cell BK107.out 3).trans rfl; have hcz18_4 : w15.cell? ⟨gb107, 4, none⟩ = some (.bool a1_4) := (blk_cell BK107.out 4).trans rfl; have hcz18_5 : w15.cell? ⟨gb107, 5, none⟩ = some (.bool a1_5) := (blk_cell BK107.out 5).trans rfl; have hcz18_6 : w15.cell? ⟨gb107, 6, none⟩ = some (.int .u64 a1_6) := (blk_cell BK107.out 6).trans rfl; have hcz18_7 : w15.cell? ⟨gb107, 7, none⟩ = some (.int .u64 a1_7) := (blk_cell BK107.out 7).trans rfl; have hcz18_8 : w15.cell? ⟨gb107, 8, none⟩ = some (.int .i64 a1_8) := (blk_cell BK107.out 8).trans rfl; have hcz18_9 : w15.cell? ⟨gb107, 9, none⟩ = some (.int .u64 a1_9) := (blk_cell BK107.out 9).trans rfl; have hcz18_10 : w15.cell? ⟨gb107, 10, none⟩ = some (.slice A1_10 l1_10.length c1_10) := (blk_cell BK107.out 10).trans rfl; have hcz18_11 : w15.cell? ⟨gb107, 11, none⟩ = some (.int .u64 a1_11) := (blk_cell BK107.out 11).trans rfl; have hcz18_12 : w15.cell? ⟨gb107, 12, none⟩ = some (.int .u64 a1_12) := (blk_cell BK107.out 12).trans rfl; have hcz18_13 : w15.cell? ⟨gb107, 13, none⟩ = some (.int .i64 a1_13) := (blk_cell BK107.out 13).trans rfl; have hcz18_14 : w15.cell? ⟨gb107, 14, none⟩ = some (.int .u64 a1_14) := (blk_cell BK107.out 14).trans rfl; have hcz18_15 : w15.cell? ⟨gb107, 15, none⟩ = some (.int .u64 a1_15) := (blk_cell BK107.out 15).trans rfl; have hcz18_16 : w15.cell? ⟨gb107, 16, none⟩ = some (.int .i64 a1_16) := (blk_cell BK107.out 16).trans rfl; have hcz18_17 : w15.cell? ⟨gb107, 17, none⟩ = some (.int .i64 a1_17) := (blk_cell BK107.out 17).trans rfl; have hfz18_0 := blk_frozen BK107.out 0; have hfz18_1 := blk_frozen BK107.out 1; have hfz18_2 := blk_frozen BK107.out 2; have hfz18_3 := blk_frozen BK107.out 3; have hfz18_4 := blk_frozen BK107.out 4; have hfz18_5 := blk_frozen BK107.out 5; have hfz18_6 := blk_frozen BK107.out 6; have hfz18_7 := blk_frozen BK107.out 7; have hfz18_8 := blk_frozen BK107.out 8; have hfz18_9 := blk_frozen BK107.out 9; have hfz18_10 := blk_frozen BK107.out 10; have hfz18_11 := blk_frozen BK107.out 11; have hfz18_12 := blk_frozen BK107.out 12; have hfz18_13 := blk_frozen BK107.out 13; have hfz18_14 := blk_frozen BK107.out 14; have hfz18_15 := blk_frozen BK107.out 15; have hfz18_16 := blk_frozen BK107.out 16; have hfz18_17 := blk_frozen BK107.out 17) | (go_at_call 17; (with_reducible refine (consortref18_Same.calls k a0_6 a0_7 a0_8 a0_9 _ _ l0_10 a1_6 a1_7 a1_8 a1_9 _ _ l1_10 true _ ?side1 ?side2 ?side3 ?side4 A9.out).mono ?_); (case side1 => repeat (first | exact (Kd.C_below HR0_10.out HB.out) | (with_reducible refine Kd.C_alloc ?_ _) | (with_reducible refine Kd.C_drewN ?_ _) | (with_reducible refine Kd.C_drew ?_))); (case side2 => exact HC0_10.out); (case side3 => repeat (first | exact (Kd.C_below HR1_10.out HB.out) | (with_reducible refine Kd.C_alloc ?_ _) | (with_reducible refine Kd.C_drewN ?_ _) | (with_reducible refine Kd.C_drew ?_))); (case side4 => exact HC1_10.out); rintro e w19 ⟨rfl, hb⟩; have n0_ := Aside0.mk (blk_below (g := gb106) (o := .cells #[.int .i64 a0_0, .string a0_1, .int .u32 a0_2, .int .u64 a0_3, .bool a0_4, .bool a0_5, .int .u64 a0_6, .int .u64 a0_7, .int .i64 a0_8, .int .u64 a0_9, .slice A0_10 l0_10.length c0_10, .int .u64 a0_11, .int .u64 a0_12, .int .i64 a0_13, .int .u64 a0_14, .int .u64 a0_15, .int .i64 a0_16, .int .i64 a0_17] 38 (0, 0)) (by (with_reducible repeat (first | refine blk_drewN ?_ _ | refine blk_drew ?_ | refine blk_alloc ?_ _)); exact BK106.out) hb); have n1_ := Aside0.mk (blk_below (g := gb107) (o := .cells #[.int .i64 a1_0, .string a1_1, .int .u32 a1_2, .int .u64 a1_3, .bool a1_4, .bool a1_5, .int .u64 a1_6, .int .u64 a1_7, .int .i64 a1_8, .int .u64 a1_9, .slice A1_10 l1_10.length c1_10, .int .u64 a1_11, .int .u64 a1_12, .int .i64 a1_13, .int .u64 a1_14, .int .u64 a1_15, .int .i64 a1_16, .int .i64 a1_17] 38 (0, 0)) (by (with_reducible repeat (first | refine blk_drewN ?_ _ | refine blk_drew ?_ | refine blk_alloc ?_ _)); exact BK107.out) hb); have n2_ := Aside0.mk (below_step (by repeat (first | (with_reducible first | exact HB.out | apply below_alloc | apply pw_below_drewN | apply below_drew1 | refine below_set ?_ GE106.out | refine below_set ?_ GE107.out) | exact HB.out)) hb); clear BK106; clear BK107; clear HB; have BK106 := n0_; have BK107 := n1_; have HB := n2_; clear n0_ n1_ n2_; (try clear hb); (try clear hb2); (try clear hk); (try clear hi); have hcz20_0 : w19.cell? ⟨gb106, 0, none⟩ = some (.int .i64 a0_0) := (blk_cell BK106.out 0).trans rfl; have hcz20_1 : w19.cell? ⟨gb106, 1, none⟩ = some (.string a0_1) := (blk_cell BK106.out 1).trans rfl; have hcz20_2 : w19.cell? ⟨gb106, 2, none⟩ = some (.int .u32 a0_2) := (blk_cell BK106.out 2).trans rfl; have hcz20_3 : w19.cell? ⟨gb106, 3, none⟩ = some (.int .u64 a0_3) := (blk_cell BK106.out 3).trans rfl; have hcz20_4 : w19.cell? ⟨gb106, 4, none⟩ = some (.bool a0_4) := (blk_cell BK106.out 4).trans rfl; have hcz20_5 : w19.cell? ⟨gb106, 5, none⟩ = some (.bool a0_5) := (blk_cell BK106.out 5).trans rfl; have hcz20_6 : w19.cell? ⟨gb106, 6, none⟩ = some (.int .u64 a0_6) := (blk_cell BK106.out 6).trans rfl; have hcz20_7 : w19.cell? ⟨gb106, 7, none⟩ = some (.int .u64 a0_7) := (blk_cell BK106.out 7).trans rfl; have hcz20_8 : w19.cell? ⟨gb106, 8, none⟩ = some (.int .i64 a0_8) := (blk_cell BK106.out 8).trans rfl; have hcz20_9 : w19.cell? ⟨gb106, 9, none⟩ = some (.int .u64 a0_9) := (blk_cell BK106.out 9).trans rfl; have hcz20_10 : w19.cell? ⟨gb106, 10, none⟩ = some (.slice A0_10 l0_10.length c0_10) := (blk_cell BK106.out 10).trans rfl; have hcz20_11 : w19.cell? ⟨gb106, 11, none⟩ = some (.int .u64 a0_11) := (blk_cell BK106.out 11).trans rfl; have hcz20_12 : w19.cell? ⟨gb106, 12, none⟩ = some (.int .u64 a0_12) := (blk_cell BK106.out 12).trans rfl; have hcz20_13 : w19.cell? ⟨gb106, 13, none⟩ = some (.int .i64 a0_13) := (blk_cell BK106.out 13).trans rfl; have hcz20_14 : w19.cell? ⟨gb106, 14, none⟩ = some (.int .u64 a0_14) := (blk_cell BK106.out 14).trans rfl; have hcz20_15 : w19.cell? ⟨gb106, 15, none⟩ = some (.int .u64 a0_15) := (blk_cell BK106.out 15).trans rfl; have hcz20_16 : w19.cell? ⟨gb106, 16, none⟩ = some (.int .i64 a0_16) := (blk_cell BK106.out 16).trans rfl; have hcz20_17 : w19.cell? ⟨gb106, 17, none⟩ = some (.int .i64 a0_17) := (blk_cell BK106.out 17).trans rfl; have hfz20_0 := blk_frozen BK106.out 0; have hfz20_1 := blk_frozen BK106.out 1; have hfz20_2 := blk_frozen BK106.out 2; have hfz20_3 := blk_frozen BK106.out 3; have hfz20_4 := blk_frozen BK106.out 4; have hfz20_5 := blk_frozen BK106.out 5; have hfz20_6 := blk_frozen BK106.out 6; have hfz20_7 := blk_frozen BK106.out 7; have hfz20_8 := blk_frozen BK106.out 8; have hfz20_9 := blk_frozen BK106.out 9; have hfz20_10 := blk_frozen BK106.out 10; have hfz20_11 := blk_frozen BK106.out 11; have hfz20_12 := blk_frozen BK106.out 12; have hfz20_13 := blk_frozen BK106.out 13; have hfz20_14 := blk_frozen BK106.out 14; have hfz20_15 := blk_frozen BK106.out 15; have hfz20_16 := blk_frozen BK106.out 16; have hfz20_17 := blk_frozen BK106.out 17; have hcz21_0 : w19.cell? ⟨gb107, 0, none⟩ = some (.int .i64 a1_0) := (blk_cell BK107.out 0).trans rfl; have hcz21_1 : w19.cell? ⟨gb107, 1, none⟩ = some (.string a1_1) := (blk_cell BK107.out 1).trans rfl; have hcz21_2 : w19.cell? ⟨gb107, 2, none⟩ = some (.int .u32 a1_2) := (blk_cell BK107.out 2).trans rfl; have hcz21_3 : w19.cell? ⟨gb107, 3, none⟩ = some (.int .u64 a1_3) := (blk_cell BK107.out 3).trans rfl; have hcz21_4 : w19.cell? ⟨gb107, 4, none⟩ = some (.bool a1_4) := (blk_cell BK107.out 4).trans rfl; have hcz21_5 : w19.cell? ⟨gb107, 5, none⟩ = some (.bool a1_5) := (blk_cell BK107.out 5).trans rfl; have hcz21_6 : w19.cell? ⟨gb107, 6, none⟩ = some (.int .u64 a1_6) := (blk_cell BK107.out 6).trans rfl; have hcz21_7 : w19.cell? ⟨gb107, 7, none⟩ = some (.int .u64 a1_7) := (blk_cell BK107.out 7).trans rfl; have hcz21_8 : w19.cell? ⟨gb107, 8, none⟩ = some (.int .i64 a1_8) := (blk_cell BK107.out 8).trans rfl; have hcz21_9 : w19.cell? ⟨gb107, 9, none⟩ = some (.int .u64 a1_9) := (blk_cell BK107.out 9).trans rfl; have hcz21_10 : w19.cell? ⟨gb107, 10, none⟩ = some (.slice A1_10 l1_10.length c1_10) := (blk_cell BK107.out 10).trans rfl; have hcz21_11 : w19.cell? ⟨gb107, 11, none⟩ = some (.int .u64 a1_11) := (blk_cell BK107.out 11).trans rfl; have hcz21_12 : w19.cell? ⟨gb107, 12, none⟩ = some (.int .u64 a1_12) := (blk_cell BK107.out 12).trans rfl; have hcz21_13 : w19.cell? ⟨gb107, 13, none⟩ = some (.int .i64 a1_13) := (blk_cell BK107.out 13).trans rfl; have hcz21_14 : w19.cell? ⟨gb107, 14, none⟩ = some (.int .u64 a1_14) := (blk_cell BK107.out 14).trans rfl; have hcz21_15 : w19.cell? ⟨gb107, 15, none⟩ = some (.int .u64 a1_15) := (blk_cell BK107.out 15).trans rfl; have hcz21_16 : w19.cell? ⟨gb107, 16, none⟩ = some (.int .i64 a1_16) := (blk_cell BK107.out 16).trans rfl; have hcz21_17 : w19.cell? ⟨gb107, 17, none⟩ = some (.int .i64 a1_17) := (blk_cell BK107.out 17).trans rfl; have hfz21_0 := blk_frozen BK107.out 0; have hfz21_1 := blk_frozen BK107.out 1; have hfz21_2 := blk_frozen BK107.out 2; have hfz21_3 := blk_frozen BK107.out 3; have hfz21_4 := blk_frozen BK107.out 4; have hfz21_5 := blk_frozen BK107.out 5; have hfz21_6 := blk_frozen BK107.out 6; have hfz21_7 := blk_frozen BK107.out 7; have hfz21_8 := blk_frozen BK107.out 8; have hfz21_9 := blk_frozen BK107.out 9; have hfz21_10 := blk_frozen BK107.out 10; have hfz21_11 := blk_frozen BK107.out 11; have hfz21_12 := blk_frozen BK107.out 12; have hfz21_13 := blk_frozen BK107.out 13; have hfz21_14 := blk_frozen BK107.out 14; have hfz21_15 := blk_frozen BK107.out 15; have hfz21_16 := blk_frozen BK107.out 16; have hfz21_17 := blk_frozen BK107.out 17))
                      go_ret
                      exact ⟨by first | rfl | (simp [errW_none, errW_some] <;> rfl) | (simp [*, errW_none, errW_some] <;> rfl), by repeat (first | (with_reducible first | exact HB.out | apply below_alloc | apply pw_below_drewN | apply below_drew1 | refine below_set ?_ GE106.out | refine below_set ?_ GE107.out) | exact HB.out)⟩
                    · rw [if_neg c13] at H
                      have c13b0 : (a0_16 == a1_16) = false := beq_eq_false_iff_ne.mpr c13
                      have c13b1 : (a0_16 != a1_16) = true := bne_iff_ne.mpr c13
                      exact absurd H (by simp)
                  · rw [if_neg c12] at H
                    have c12b0 : (a0_15 == a1_15) = false := beq_eq_false_iff_ne.mpr c12
                    have c12b1 : (a0_15 != a1_15) = true := bne_iff_ne.mpr c12
                    exact absurd H (by simp)
                · rw [if_neg c11] at H
                  have c11b0 : (a0_11 == a1_11 && ((a0_12 == a1_12 && (a0_13 == a1_13)) && (a0_14 == a1_14))) = false := by simpa using c11
                  (try (have c11b1 : decide (a0_11 = a1_11 && ((a0_12 == a1_12 && (a0_13 == a1_13)) && (a0_14 == a1_14))) = false := by simpa using c11))
                  (try (have c11b2 : (a0_11 == a1_11 && ((a0_12 == a1_12 && (a0_13 == a1_13)) && (a0_14 == a1_14))) = false := by simpa using c11))
                  (try (have c11b3 : ¬ (a0_11 = a1_11 && ((a0_12 == a1_12 && (a0_13 == a1_13)) && (a0_14 == a1_14))) := by simpa using c11))
                  clear c11
                  exact absurd H (by simp)
              · replace c10 := Bool.eq_false_iff.mpr c10
                subst c10
                have H1 : (some false) = some true := by first | (rw [if_neg (show ¬ (false = true) by decide)] at H; done) | (rw [if_neg (show ¬ (false = true) by decide)] at H; exact H)
                clear H
                have H := H1
                clear H1
                exact absurd H (by simp)
            · rw [if_neg c8] at H
              have c8b0 : (a0_5 == a1_5) = false := by simpa using c8
              (try (have c8b1 : decide (a0_5 = a1_5) = false := by simpa using c8))
              (try (have c8b2 : (a0_5 == a1_5) = false := by simpa using c8))
              (try (have c8b3 : ¬ (a0_5 = a1_5) := by simpa using c8))
              clear c8
              exact absurd H (by simp)
          · rw [if_neg c7] at H
            have c7b0 : (a0_4 == a1_4) = false := by simpa using c7
            (try (have c7b1 : decide (a0_4 = a1_4) = false := by simpa using c7))
            (try (have c7b2 : (a0_4 == a1_4) = false := by simpa using c7))
            (try (have c7b3 : ¬ (a0_4 = a1_4) := by simpa using c7))
            clear c7
            exact absurd H (by simp)
        · rw [if_neg c6] at H
          have c6b0 : (a0_3 == a1_3) = false := beq_eq_false_iff_ne.mpr c6
          have c6b1 : (a0_3 != a1_3) = true := bne_iff_ne.mpr c6
          exact absurd H (by simp)
      · rw [if_neg c5] at H
        have c5b0 : (a0_2 == a1_2) = false := beq_eq_false_iff_ne.mpr c5
        have c5b1 : (a0_2 != a1_2) = true := bne_iff_ne.mpr c5
        exact absurd H (by simp)
    · rw [if_neg c4] at H
      have c4b0 : (a0_1.toList == a1_1.toList) = false := beq_eq_false_iff_ne.mpr c4
      have c4b1 : (a0_1.toList != a1_1.toList) = true := bne_iff_ne.mpr c4
      exact absurd H (by simp)
  · rw [if_neg c3] at H
    have c3b0 : (a0_0 == a1_0) = false := beq_eq_false_iff_ne.mpr c3
    have c3b1 : (a0_0 != a1_0) = true := bne_iff_ne.mpr c3
    exact absurd H (by simp)

end Go.Proofs.Ytgpldjckohlkfaa.PS
