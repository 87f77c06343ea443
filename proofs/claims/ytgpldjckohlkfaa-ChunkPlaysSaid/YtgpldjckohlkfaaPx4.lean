-- Written by our own program (wip/pr) over the kit's print.py, with contracts of our own.
import Derived.Test.YtgpldjckohlkfaaPx0
import Derived.Test.YtgpldjckohlkfaaPx3
import Derived.Test.YtgpldjckohlkfaaHandC
namespace Go.Proofs.Ytgpldjckohlkfaa.P
open Go.Proofs.YtgpldjckohlkfaaOv
open Go.RowKit Go.Proofs.YtgpldjckohlkfaaW.PrintWords Go.Proofs.YtgpldjckohlkfaaW.PrintLast Go.Proofs.YtgpldjckohlkfaaW.PrintMore
attribute [local go_sem] max2_int min2_int max_two min_two max_three min_three max_four min_four   -- for this text's walks alone
set_option linter.unusedVariables false
set_option linter.unusedSimpArgs false

/-! ### consortref23_Whole: function 16 -/
def consortref23_Whole.l0 : Nat → ByteArray → Int → Int → List (S38) → Option (ByteArray × Bool)
  | 0, _, _, _, _ => none
  | k + 1, x4, x5, x158000, x158001 => if 0 < (x158001.length : Int) then (if x5 < ((rd_T38 x158001 0).f10) then ((consortref23_find.f k x158000 x158001 x5).bind fun bt159 => (if bt159.2 = true then (if x4.size + bt159.1.size ≤ 9223372036854775807 then (consortref23_Whole.l0 k (x4 ++ bt159.1) (wrap64 (x5 + 1)) x158000 x158001) else (none)) else (some ((⟨#[]⟩ : ByteArray), false)))) else (some (x4, true))) else (none)
def consortref23_Whole.f (k : Nat) (a0_0 : Int) (l0_1 : List (S38)) : Option (ByteArray × Bool) := if (l0_1.length : Int) = 0 then (some ((⟨#[]⟩ : ByteArray), false)) else (consortref23_Whole.l0 k (⟨#[]⟩ : ByteArray) 0 a0_0 l0_1)
theorem consortref23_Whole.mono_l : ∀ k, (∀ y0 y1 y2 y3, LeO (consortref23_Whole.l0 k y0 y1 y2 y3) (consortref23_Whole.l0 (k + 1) y0 y1 y2 y3))
  | 0 => fun _ _ _ _ r h => by simp [consortref23_Whole.l0] at h
  | k + 1 => by
    have ih0 := consortref23_Whole.mono_l k
    · intro y0 y1 y2 y3
      unfold consortref23_Whole.l0
      repeat' first
      | (with_reducible exact ih0 _ _ _ _)
      | (with_reducible exact consortref23_find.mono _ _ _ _)
      | (with_reducible exact LeO.refl _)
      | (with_reducible exact LeO.none _)
      | (with_reducible refine LeO.ite ?_ ?_)
      | (with_reducible refine LeO.bind ?_ (fun _ => ?_))
      | exact ih0 _ _ _ _
      | exact consortref23_find.mono _ _ _ _
      | exact LeO.none _
      | refine LeO.ite ?_ ?_
      | refine LeO.bind ?_ (fun _ => ?_)
theorem consortref23_Whole.mono : ∀ a0 a1 k, LeO (consortref23_Whole.f k a0 a1) (consortref23_Whole.f (k + 1) a0 a1) := by
  intro a0 a1 k
  have ih0 := consortref23_Whole.mono_l k
  unfold consortref23_Whole.f
  repeat' first
      | (with_reducible exact ih0 _ _ _ _)
      | (with_reducible exact consortref23_find.mono _ _ _ _)
      | (with_reducible exact LeO.refl _)
      | (with_reducible exact LeO.none _)
      | (with_reducible refine LeO.ite ?_ ?_)
      | (with_reducible refine LeO.bind ?_ (fun _ => ?_))
      | exact ih0 _ _ _ _
      | exact consortref23_find.mono _ _ _ _
      | exact LeO.none _
      | refine LeO.ite ?_ ?_
      | refine LeO.bind ?_ (fun _ => ?_)
set_option maxHeartbeats 8000000 in
set_option maxRecDepth 100000 in
theorem consortref23_Whole.calls (k : Nat) (a0_0 : Int) (A0_1 : Option Addr) (c0_1 : Nat) (l0_1 : List (S38)) (r1 : ByteArray) (r2 : Bool) (w : World) (hr0_1 : Kd.C k38 w A0_1 l0_1.length l0_1) (hc0_1 : l0_1.length ≤ c0_1) (h : consortref23_Whole.f k a0_0 l0_1 = some (r1, r2)) :
    Calls Try.prog 16 #[.agg #[.int .u64 a0_0, .slice A0_1 l0_1.length c0_1]] w fun e w' => e = .returned (.tuple #[.string r1, .bool r2]) ∧ Below w.heap.size w w' := by
  have hu54 := Try.underlying54
  have HR0_1 := Aside0.mk hr0_1
  have HC0_1 := Aside0.mk hc0_1
  clear hr0_1 hc0_1
  have HB := Aside0.mk (Below.refl w.heap.size w)
  have H : (if (l0_1.length : Int) = 0 then (some ((⟨#[]⟩ : ByteArray), false)) else (consortref23_Whole.l0 k (⟨#[]⟩ : ByteArray) 0 a0_0 l0_1)) = some (r1, r2) := h
  clear h
  by_cases c2 : (l0_1.length : Int) = 0
  · rw [if_pos c2] at H
    have c2b0 : ((l0_1.length : Int) == 0) = true := beq_iff_eq.mpr c2
    have c2b1 : ((l0_1.length : Int) != 0) = false := bne_eq_false_iff_eq.mpr c2
    clear c2
    simp only [Option.some.injEq, Prod.mk.injEq] at H
    obtain ⟨rfl, rfl⟩ := H
    go_enter Try.func16, Try.ntmps16
    go_wp2_with (first | ((with_reducible refine gate_dst (N := 1) rfl ?_); refine box_event ?hg (N := 1) ?hd (cs := #[.int .u64 a0_0, .slice A0_1 l0_1.length c0_1]) (t := 54) ?hr ?_; (case hd => rfl); (case hg => rfl); (case hr => first | (go_simp; done) | (go_simp; rfl)); intro gb157 hg w3 hbox hb; have n0_ := Aside0.mk (below_step (by repeat (first | (with_reducible first | exact HB.out | apply below_alloc | apply pw_below_drewN | apply below_drew1) | exact HB.out)) hb); have n1_ := Aside0.mk (hbox); have n2_ := Aside0.mk ((by rw [hg]; exact (below_size (by repeat (first | (with_reducible first | exact HB.out | apply below_alloc | apply pw_below_drewN | apply below_drew1) | exact HB.out))) : w.heap.size ≤ gb157)); have n3_ := Aside0.mk ((by rw [hg]; exact (below_size (by repeat (first | (with_reducible first | exact HB.out | apply below_alloc | apply pw_below_drewN | apply below_drew1) | exact HB.out))) : w.heap.size ≤ gb157)); clear HB; have HB := n0_; have BK157 := n1_; have GW157 := n2_; have GE157 := n3_; clear n0_ n1_ n2_ n3_; clear hb hbox hg; have hcz4_0 : w3.cell? ⟨gb157, 0, none⟩ = some (.int .u64 a0_0) := (blk_cell BK157.out 0).trans rfl; have hcz4_1 : w3.cell? ⟨gb157, 1, none⟩ = some (.slice A0_1 l0_1.length c0_1) := (blk_cell BK157.out 1).trans rfl; have hfz4_0 := blk_frozen BK157.out 0; have hfz4_1 := blk_frozen BK157.out 1))
    go_ret2
    exact ⟨by first | rfl | (simp [errW_none, errW_some] <;> rfl) | (simp [*, errW_none, errW_some] <;> rfl), by repeat (first | (with_reducible first | exact HB.out | apply below_alloc | apply pw_below_drewN | apply below_drew1 | refine below_set ?_ GE157.out) | exact HB.out)⟩
  · rw [if_neg c2] at H
    have c2b0 : ((l0_1.length : Int) == 0) = false := beq_eq_false_iff_ne.mpr c2
    have c2b1 : ((l0_1.length : Int) != 0) = true := bne_iff_ne.mpr c2
    have c2b2 : ¬ (l0_1 = []) := fun h_ => c2 (by rw [h_]; rfl)
    have H' := Aside0.mk H
    clear H
    go_enter Try.func16, Try.ntmps16
    go_wp2_with (first | ((with_reducible refine gate_dst (N := 1) rfl ?_); refine box_event ?hg (N := 1) ?hd (cs := #[.int .u64 a0_0, .slice A0_1 l0_1.length c0_1]) (t := 54) ?hr ?_; (case hd => rfl); (case hg => rfl); (case hr => first | (go_simp; done) | (go_simp; rfl)); intro gb157 hg w5 hbox hb; have n0_ := Aside0.mk (below_step (by repeat (first | (with_reducible first | exact HB.out | apply below_alloc | apply pw_below_drewN | apply below_drew1) | exact HB.out)) hb); have n1_ := Aside0.mk (hbox); have n2_ := Aside0.mk ((by rw [hg]; exact (below_size (by repeat (first | (with_reducible first | exact HB.out | apply below_alloc | apply pw_below_drewN | apply below_drew1) | exact HB.out))) : w.heap.size ≤ gb157)); have n3_ := Aside0.mk ((by rw [hg]; exact (below_size (by repeat (first | (with_reducible first | exact HB.out | apply below_alloc | apply pw_below_drewN | apply below_drew1) | exact HB.out))) : w.heap.size ≤ gb157)); clear HB; have HB := n0_; have BK157 := n1_; have GW157 := n2_; have GE157 := n3_; clear n0_ n1_ n2_ n3_; clear hb hbox hg; have hcz6_0 : w5.cell? ⟨gb157, 0, none⟩ = some (.int .u64 a0_0) := (blk_cell BK157.out 0).trans rfl; have hcz6_1 : w5.cell? ⟨gb157, 1, none⟩ = some (.slice A0_1 l0_1.length c0_1) := (blk_cell BK157.out 1).trans rfl; have hfz6_0 := blk_frozen BK157.out 0; have hfz6_1 := blk_frozen BK157.out 1))
    go_loopg [4, 5] k (fun kq v4 v5 w' => ∃ (x4_1 : ByteArray) (x5_1 : Int), v4 = .string x4_1 ∧ v5 = .int .i64 x5_1 ∧ Aside0 (consortref23_Whole.l0 kq x4_1 x5_1 a0_0 l0_1 = some (r1, r2)) ∧ Aside0 (kq ≤ k) ∧ Aside0 (w'.heap[gb157]? = some (.cells #[.int .u64 a0_0, (.slice A0_1 l0_1.length c0_1)] 54 (0, 0))) ∧ Aside0 (Below w.heap.size w w'))
    case atStart => exact ⟨((⟨#[]⟩ : ByteArray)), (0), (by first | rfl | (simp; done) | (simp [*]; done)), (by first | rfl | (simp; done) | (simp [*]; done)), H', ⟨Nat.le_refl _⟩, ⟨by (with_reducible repeat (first | refine blk_drewN ?_ _ | refine blk_drew ?_ | refine blk_alloc ?_ _)); exact BK157.out⟩, ⟨by repeat (first | (with_reducible first | exact HB.out | apply below_alloc | apply pw_below_drewN | apply below_drew1 | refine below_set ?_ GE157.out) | exact HB.out)⟩⟩
    case round =>
      clear H'
      try clear c1
      try clear c2
      try clear c2b0
      try clear c2b1
      try clear c2b2
      try clear p2
      try clear hcz4_0
      try clear hcz4_1
      try clear hcz6_0
      try clear hcz6_1
      try clear hfz4_0
      try clear hfz4_1
      try clear hfz6_0
      try clear hfz6_1
      obtain ⟨x4_1, x5_1, rfl, rfl, HA, HK1, BK157, HB⟩ := hrel
      cases gk with
      | zero => exact absurd HA.out (by simp [consortref23_Whole.l0])
      | succ k1 =>
        have H := HA.out
        clear HA
        simp only [consortref23_Whole.l0] at H
        by_cases c7 : 0 < (l0_1.length : Int)
        · rw [if_pos c7] at H
          have c7b0 : decide (0 < (l0_1.length : Int)) = true := decide_eq_true c7
          have c7b1 : decide (0 < l0_1.length) = true := decide_eq_true (by omega)
          clear c7
          by_cases c8 : x5_1 < ((rd_T38 l0_1 0).f10)
          · rw [if_pos c8] at H
            have c8b0 : decide (x5_1 < ((rd_T38 l0_1 0).f10)) = true := decide_eq_true c8
            clear c8
            replace H := Option.bind_eq_some_iff.mp H
            obtain ⟨⟨t159, t160⟩, A90, H⟩ := H
            replace H : (if t160 = true then (if x4_1.size + t159.size ≤ 9223372036854775807 then (consortref23_Whole.l0 k1 (x4_1 ++ t159) (wrap64 (x5_1 + 1)) a0_0 l0_1) else (none)) else (some ((⟨#[]⟩ : ByteArray), false))) = some (r1, r2) := H
            have A9 := Aside0.mk A90
            clear A90
            by_cases c10 : t160 = true
            · subst c10
              have H1 : (if x4_1.size + t159.size ≤ 9223372036854775807 then (consortref23_Whole.l0 k1 (x4_1 ++ t159) (wrap64 (x5_1 + 1)) a0_0 l0_1) else (none)) = some (r1, r2) := by first | (rw [if_pos rfl] at H; done) | (rw [if_pos rfl] at H; exact H)
              clear H
              have H := H1
              clear H1
              by_cases c11 : x4_1.size + t159.size ≤ 9223372036854775807
              · rw [if_pos c11] at H
                have c11b0 := eq_true c11
                have c11b1 : decide (x4_1.size + t159.size ≤ 9223372036854775807) = true := decide_eq_true c11
                try have c11b2 : (9223372036854775807 < x4_1.size + t159.size) = False := eq_false (Nat.not_lt.2 c11)
                have H' := Aside0.mk H
                clear H
                have hcz12_0 : wr.cell? ⟨gb157, 0, none⟩ = some (.int .u64 a0_0) := (blk_cell BK157.out 0).trans rfl
                have hcz12_1 : wr.cell? ⟨gb157, 1, none⟩ = some (.slice A0_1 l0_1.length c0_1) := (blk_cell BK157.out 1).trans rfl
                have hfz12_0 := blk_frozen BK157.out 0
                have hfz12_1 := blk_frozen BK157.out 1
                have p158 : 0 ≤ (0 : Int) := (by omega)
                have q158 : 0 < (l0_1.length : Int) := of_decide_eq_true (by first | (with_reducible assumption) | assumption)
                obtain ⟨ad158, e158, hx158_0, hx158_1, hx158_2, hx158_3, hx158_4, hx158_5, hx158_6, hx158_7, hx158_8, hx158_9, hx158_10, hx158_11, hx158_12, hx158_13, hx158_14, hx158_15, hx158_16, hx158_17⟩ := at_T38 HR0_1.out 0 p158 q158
                cases e158
                have qi158 : (0 < l0_1.length) = True := eq_true (by omega)
                (try rw [show ((0 : Int)).toNat = 0 from rfl] at hx158_0)
                (try rw [show 0 * 18 = 0 from rfl] at hx158_0)
                (try rw [Addr.add_zero'] at hx158_0)
                (try rw [show ((0 : Int)).toNat = 0 from rfl] at hx158_1)
                (try rw [show 0 * 18 = 0 from rfl] at hx158_1)
                (try rw [Addr.add_zero'] at hx158_1)
                (try rw [show ((0 : Int)).toNat = 0 from rfl] at hx158_2)
                (try rw [show 0 * 18 = 0 from rfl] at hx158_2)
                (try rw [Addr.add_zero'] at hx158_2)
                (try rw [show ((0 : Int)).toNat = 0 from rfl] at hx158_3)
                (try rw [show 0 * 18 = 0 from rfl] at hx158_3)
                (try rw [Addr.add_zero'] at hx158_3)
                (try rw [show ((0 : Int)).toNat = 0 from rfl] at hx158_4)
                (try rw [show 0 * 18 = 0 from rfl] at hx158_4)
                (try rw [Addr.add_zero'] at hx158_4)
                (try rw [show ((0 : Int)).toNat = 0 from rfl] at hx158_5)
                (try rw [show 0 * 18 = 0 from rfl] at hx158_5)
                (try rw [Addr.add_zero'] at hx158_5)
                (try rw [show ((0 : Int)).toNat = 0 from rfl] at hx158_6)
                (try rw [show 0 * 18 = 0 from rfl] at hx158_6)
                (try rw [Addr.add_zero'] at hx158_6)
                (try rw [show ((0 : Int)).toNat = 0 from rfl] at hx158_7)
                (try rw [show 0 * 18 = 0 from rfl] at hx158_7)
                (try rw [Addr.add_zero'] at hx158_7)
                (try rw [show ((0 : Int)).toNat = 0 from rfl] at hx158_8)
                (try rw [show 0 * 18 = 0 from rfl] at hx158_8)
                (try rw [Addr.add_zero'] at hx158_8)
                (try rw [show ((0 : Int)).toNat = 0 from rfl] at hx158_9)
                (try rw [show 0 * 18 = 0 from rfl] at hx158_9)
                (try rw [Addr.add_zero'] at hx158_9)
                (try rw [show ((0 : Int)).toNat = 0 from rfl] at hx158_10)
                (try rw [show 0 * 18 = 0 from rfl] at hx158_10)
                (try rw [Addr.add_zero'] at hx158_10)
                (try rw [show ((0 : Int)).toNat = 0 from rfl] at hx158_11)
                (try rw [show 0 * 18 = 0 from rfl] at hx158_11)
                (try rw [Addr.add_zero'] at hx158_11)
                (try rw [show ((0 : Int)).toNat = 0 from rfl] at hx158_12)
                (try rw [show 0 * 18 = 0 from rfl] at hx158_12)
                (try rw [Addr.add_zero'] at hx158_12)
                (try rw [show ((0 : Int)).toNat = 0 from rfl] at hx158_13)
                (try rw [show 0 * 18 = 0 from rfl] at hx158_13)
                (try rw [Addr.add_zero'] at hx158_13)
                (try rw [show ((0 : Int)).toNat = 0 from rfl] at hx158_14)
                (try rw [show 0 * 18 = 0 from rfl] at hx158_14)
                (try rw [Addr.add_zero'] at hx158_14)
                (try rw [show ((0 : Int)).toNat = 0 from rfl] at hx158_15)
                (try rw [show 0 * 18 = 0 from rfl] at hx158_15)
                (try rw [Addr.add_zero'] at hx158_15)
                (try rw [show ((0 : Int)).toNat = 0 from rfl] at hx158_16)
                (try rw [show 0 * 18 = 0 from rfl] at hx158_16)
                (try rw [Addr.add_zero'] at hx158_16)
                (try rw [show ((0 : Int)).toNat = 0 from rfl] at hx158_17)
                (try rw [show 0 * 18 = 0 from rfl] at hx158_17)
                (try rw [Addr.add_zero'] at hx158_17)
                replace hx158_0 := (HB.out.cell (World.block_lt_of_cell? w _ hx158_0)).trans hx158_0
                replace hx158_1 := (HB.out.cell (World.block_lt_of_cell? w _ hx158_1)).trans hx158_1
                replace hx158_2 := (HB.out.cell (World.block_lt_of_cell? w _ hx158_2)).trans hx158_2
                replace hx158_3 := (HB.out.cell (World.block_lt_of_cell? w _ hx158_3)).trans hx158_3
                replace hx158_4 := (HB.out.cell (World.block_lt_of_cell? w _ hx158_4)).trans hx158_4
                replace hx158_5 := (HB.out.cell (World.block_lt_of_cell? w _ hx158_5)).trans hx158_5
                replace hx158_6 := (HB.out.cell (World.block_lt_of_cell? w _ hx158_6)).trans hx158_6
                replace hx158_7 := (HB.out.cell (World.block_lt_of_cell? w _ hx158_7)).trans hx158_7
                replace hx158_8 := (HB.out.cell (World.block_lt_of_cell? w _ hx158_8)).trans hx158_8
                replace hx158_9 := (HB.out.cell (World.block_lt_of_cell? w _ hx158_9)).trans hx158_9
                replace hx158_10 := (HB.out.cell (World.block_lt_of_cell? w _ hx158_10)).trans hx158_10
                replace hx158_11 := (HB.out.cell (World.block_lt_of_cell? w _ hx158_11)).trans hx158_11
                replace hx158_12 := (HB.out.cell (World.block_lt_of_cell? w _ hx158_12)).trans hx158_12
                replace hx158_13 := (HB.out.cell (World.block_lt_of_cell? w _ hx158_13)).trans hx158_13
                replace hx158_14 := (HB.out.cell (World.block_lt_of_cell? w _ hx158_14)).trans hx158_14
                replace hx158_15 := (HB.out.cell (World.block_lt_of_cell? w _ hx158_15)).trans hx158_15
                replace hx158_16 := (HB.out.cell (World.block_lt_of_cell? w _ hx158_16)).trans hx158_16
                replace hx158_17 := (HB.out.cell (World.block_lt_of_cell? w _ hx158_17)).trans hx158_17
                replace p158 := eq_true p158
                replace q158 := eq_true q158
                go_wp2_with (first | ((with_reducible refine gate_callee (f := 20) rfl ?_); refine goesL_ (some 24) rfl rfl Try.func20 (by kernel_rfl) rfl #[.agg #[.int .u64 a0_0, .slice (some ad158) l0_1.length c0_1], .int .i64 x5_1] rfl (by (try simp only [List.map_toArray, List.map_cons, List.map_nil]); first | done | rfl | (simp only [List.length_drop, List.length_take]; rfl)) ?_; (with_reducible refine (consortref23_find.calls k1 a0_0 _ _ l0_1 x5_1 t159 true _ ?side1 ?side2 A9.out).mono ?_); (case side1 => repeat (first | exact (Kd.C_below HR0_1.out HB.out) | (with_reducible refine Kd.C_alloc ?_ _) | (with_reducible refine Kd.C_drewN ?_ _) | (with_reducible refine Kd.C_drew ?_))); (case side2 => exact HC0_1.out); rintro e w13 ⟨rfl, hb⟩; refine ⟨_, rfl, ?_⟩; have n0_ := Aside0.mk (blk_below (g := gb157) (o := .cells #[.int .u64 a0_0, .slice (some ad158) l0_1.length c0_1] 54 (0, 0)) (by (with_reducible repeat (first | refine blk_drewN ?_ _ | refine blk_drew ?_ | refine blk_alloc ?_ _)); exact BK157.out) hb); have n1_ := Aside0.mk (below_step (by repeat (first | (with_reducible first | exact HB.out | apply below_alloc | apply pw_below_drewN | apply below_drew1 | refine below_set ?_ GE157.out) | exact HB.out)) hb); clear BK157; clear HB; have BK157 := n0_; have HB := n1_; clear n0_ n1_; (try clear hb); (try clear hb2); (try clear hk); (try clear hi)))
                go_roundg k1
                case measure => have := HK1.out; omega
                case rel => exact ⟨(x4_1 ++ t159), (wrap64 (x5_1 + 1)), (by first | rfl | (simp; done) | (simp [*]; done)), (by first | rfl | (simp; done) | (simp [*]; done)), H', ⟨by have := HK1.out; omega⟩, ⟨by (with_reducible repeat (first | refine blk_drewN ?_ _ | refine blk_drew ?_ | refine blk_alloc ?_ _)); exact BK157.out⟩, ⟨by repeat (first | (with_reducible first | exact HB.out | apply below_alloc | apply pw_below_drewN | apply below_drew1 | refine below_set ?_ GE157.out) | exact HB.out)⟩⟩
              · rw [if_neg c11] at H
                exact absurd H (by simp)
            · replace c10 := Bool.eq_false_iff.mpr c10
              subst c10
              have H1 : (some ((⟨#[]⟩ : ByteArray), false)) = some (r1, r2) := by first | (rw [if_neg (show ¬ (false = true) by decide)] at H; done) | (rw [if_neg (show ¬ (false = true) by decide)] at H; exact H)
              clear H
              have H := H1
              clear H1
              simp only [Option.some.injEq, Prod.mk.injEq] at H
              obtain ⟨rfl, rfl⟩ := H
              have hcz14_0 : wr.cell? ⟨gb157, 0, none⟩ = some (.int .u64 a0_0) := (blk_cell BK157.out 0).trans rfl
              have hcz14_1 : wr.cell? ⟨gb157, 1, none⟩ = some (.slice A0_1 l0_1.length c0_1) := (blk_cell BK157.out 1).trans rfl
              have hfz14_0 := blk_frozen BK157.out 0
              have hfz14_1 := blk_frozen BK157.out 1
              have p158 : 0 ≤ (0 : Int) := (by omega)
              have q158 : 0 < (l0_1.length : Int) := of_decide_eq_true (by first | (with_reducible assumption) | assumption)
              obtain ⟨ad158, e158, hx158_0, hx158_1, hx158_2, hx158_3, hx158_4, hx158_5, hx158_6, hx158_7, hx158_8, hx158_9, hx158_10, hx158_11, hx158_12, hx158_13, hx158_14, hx158_15, hx158_16, hx158_17⟩ := at_T38 HR0_1.out 0 p158 q158
              cases e158
              have qi158 : (0 < l0_1.length) = True := eq_true (by omega)
              (try rw [show ((0 : Int)).toNat = 0 from rfl] at hx158_0)
              (try rw [show 0 * 18 = 0 from rfl] at hx158_0)
              (try rw [Addr.add_zero'] at hx158_0)
              (try rw [show ((0 : Int)).toNat = 0 from rfl] at hx158_1)
              (try rw [show 0 * 18 = 0 from rfl] at hx158_1)
              (try rw [Addr.add_zero'] at hx158_1)
              (try rw [show ((0 : Int)).toNat = 0 from rfl] at hx158_2)
              (try rw [show 0 * 18 = 0 from rfl] at hx158_2)
              (try rw [Addr.add_zero'] at hx158_2)
              (try rw [show ((0 : Int)).toNat = 0 from rfl] at hx158_3)
              (try rw [show 0 * 18 = 0 from rfl] at hx158_3)
              (try rw [Addr.add_zero'] at hx158_3)
              (try rw [show ((0 : Int)).toNat = 0 from rfl] at hx158_4)
              (try rw [show 0 * 18 = 0 from rfl] at hx158_4)
              (try rw [Addr.add_zero'] at hx158_4)
              (try rw [show ((0 : Int)).toNat = 0 from rfl] at hx158_5)
              (try rw [show 0 * 18 = 0 from rfl] at hx158_5)
              (try rw [Addr.add_zero'] at hx158_5)
              (try rw [show ((0 : Int)).toNat = 0 from rfl] at hx158_6)
              (try rw [show 0 * 18 = 0 from rfl] at hx158_6)
              (try rw [Addr.add_zero'] at hx158_6)
              (try rw [show ((0 : Int)).toNat = 0 from rfl] at hx158_7)
              (try rw [show 0 * 18 = 0 from rfl] at hx158_7)
              (try rw [Addr.add_zero'] at hx158_7)
              (try rw [show ((0 : Int)).toNat = 0 from rfl] at hx158_8)
              (try rw [show 0 * 18 = 0 from rfl] at hx158_8)
              (try rw [Addr.add_zero'] at hx158_8)
              (try rw [show ((0 : Int)).toNat = 0 from rfl] at hx158_9)
              (try rw [show 0 * 18 = 0 from rfl] at hx158_9)
              (try rw [Addr.add_zero'] at hx158_9)
              (try rw [show ((0 : Int)).toNat = 0 from rfl] at hx158_10)
              (try rw [show 0 * 18 = 0 from rfl] at hx158_10)
              (try rw [Addr.add_zero'] at hx158_10)
              (try rw [show ((0 : Int)).toNat = 0 from rfl] at hx158_11)
              (try rw [show 0 * 18 = 0 from rfl] at hx158_11)
              (try rw [Addr.add_zero'] at hx158_11)
              (try rw [show ((0 : Int)).toNat = 0 from rfl] at hx158_12)
              (try rw [show 0 * 18 = 0 from rfl] at hx158_12)
              (try rw [Addr.add_zero'] at hx158_12)
              (try rw [show ((0 : Int)).toNat = 0 from rfl] at hx158_13)
              (try rw [show 0 * 18 = 0 from rfl] at hx158_13)
              (try rw [Addr.add_zero'] at hx158_13)
              (try rw [show ((0 : Int)).toNat = 0 from rfl] at hx158_14)
              (try rw [show 0 * 18 = 0 from rfl] at hx158_14)
              (try rw [Addr.add_zero'] at hx158_14)
              (try rw [show ((0 : Int)).toNat = 0 from rfl] at hx158_15)
              (try rw [show 0 * 18 = 0 from rfl] at hx158_15)
              (try rw [Addr.add_zero'] at hx158_15)
              (try rw [show ((0 : Int)).toNat = 0 from rfl] at hx158_16)
              (try rw [show 0 * 18 = 0 from rfl] at hx158_16)
              (try rw [Addr.add_zero'] at hx158_16)
              (try rw [show ((0 : Int)).toNat = 0 from rfl] at hx158_17)
              (try rw [show 0 * 18 = 0 from rfl] at hx158_17)
              (try rw [Addr.add_zero'] at hx158_17)
              replace hx158_0 := (HB.out.cell (World.block_lt_of_cell? w _ hx158_0)).trans hx158_0
              replace hx158_1 := (HB.out.cell (World.block_lt_of_cell? w _ hx158_1)).trans hx158_1
              replace hx158_2 := (HB.out.cell (World.block_lt_of_cell? w _ hx158_2)).trans hx158_2
              replace hx158_3 := (HB.out.cell (World.block_lt_of_cell? w _ hx158_3)).trans hx158_3
              replace hx158_4 := (HB.out.cell (World.block_lt_of_cell? w _ hx158_4)).trans hx158_4
              replace hx158_5 := (HB.out.cell (World.block_lt_of_cell? w _ hx158_5)).trans hx158_5
              replace hx158_6 := (HB.out.cell (World.block_lt_of_cell? w _ hx158_6)).trans hx158_6
              replace hx158_7 := (HB.out.cell (World.block_lt_of_cell? w _ hx158_7)).trans hx158_7
              replace hx158_8 := (HB.out.cell (World.block_lt_of_cell? w _ hx158_8)).trans hx158_8
              replace hx158_9 := (HB.out.cell (World.block_lt_of_cell? w _ hx158_9)).trans hx158_9
              replace hx158_10 := (HB.out.cell (World.block_lt_of_cell? w _ hx158_10)).trans hx158_10
              replace hx158_11 := (HB.out.cell (World.block_lt_of_cell? w _ hx158_11)).trans hx158_11
              replace hx158_12 := (HB.out.cell (World.block_lt_of_cell? w _ hx158_12)).trans hx158_12
              replace hx158_13 := (HB.out.cell (World.block_lt_of_cell? w _ hx158_13)).trans hx158_13
              replace hx158_14 := (HB.out.cell (World.block_lt_of_cell? w _ hx158_14)).trans hx158_14
              replace hx158_15 := (HB.out.cell (World.block_lt_of_cell? w _ hx158_15)).trans hx158_15
              replace hx158_16 := (HB.out.cell (World.block_lt_of_cell? w _ hx158_16)).trans hx158_16
              replace hx158_17 := (HB.out.cell (World.block_lt_of_cell? w _ hx158_17)).trans hx158_17
              replace p158 := eq_true p158
              replace q158 := eq_true q158
              go_wp2_with (first | ((with_reducible refine gate_callee (f := 20) rfl ?_); refine goesL_ (some 24) rfl rfl Try.func20 (by kernel_rfl) rfl #[.agg #[.int .u64 a0_0, .slice (some ad158) l0_1.length c0_1], .int .i64 x5_1] rfl (by (try simp only [List.map_toArray, List.map_cons, List.map_nil]); first | done | rfl | (simp only [List.length_drop, List.length_take]; rfl)) ?_; (with_reducible refine (consortref23_find.calls k1 a0_0 _ _ l0_1 x5_1 t159 false _ ?side1 ?side2 A9.out).mono ?_); (case side1 => repeat (first | exact (Kd.C_below HR0_1.out HB.out) | (with_reducible refine Kd.C_alloc ?_ _) | (with_reducible refine Kd.C_drewN ?_ _) | (with_reducible refine Kd.C_drew ?_))); (case side2 => exact HC0_1.out); rintro e w15 ⟨rfl, hb⟩; refine ⟨_, rfl, ?_⟩; have n0_ := Aside0.mk (blk_below (g := gb157) (o := .cells #[.int .u64 a0_0, .slice (some ad158) l0_1.length c0_1] 54 (0, 0)) (by (with_reducible repeat (first | refine blk_drewN ?_ _ | refine blk_drew ?_ | refine blk_alloc ?_ _)); exact BK157.out) hb); have n1_ := Aside0.mk (below_step (by repeat (first | (with_reducible first | exact HB.out | apply below_alloc | apply pw_below_drewN | apply below_drew1 | refine below_set ?_ GE157.out) | exact HB.out)) hb); clear BK157; clear HB; have BK157 := n0_; have HB := n1_; clear n0_ n1_; (try clear hb); (try clear hb2); (try clear hk); (try clear hi)))
              go_ret2
              exact ⟨by first | rfl | (simp [errW_none, errW_some] <;> rfl) | (simp [*, errW_none, errW_some] <;> rfl), by repeat (first | (with_reducible first | exact HB.out | apply below_alloc | apply pw_below_drewN | apply below_drew1 | refine below_set ?_ GE157.out) | exact HB.out)⟩
          · rw [if_neg c8] at H
            have c8b0 : decide (x5_1 < ((rd_T38 l0_1 0).f10)) = false := decide_eq_false c8
            clear c8
            simp only [Option.some.injEq, Prod.mk.injEq] at H
            obtain ⟨rfl, rfl⟩ := H
            have hcz16_0 : wr.cell? ⟨gb157, 0, none⟩ = some (.int .u64 a0_0) := (blk_cell BK157.out 0).trans rfl
            have hcz16_1 : wr.cell? ⟨gb157, 1, none⟩ = some (.slice A0_1 l0_1.length c0_1) := (blk_cell BK157.out 1).trans rfl
            have hfz16_0 := blk_frozen BK157.out 0
            have hfz16_1 := blk_frozen BK157.out 1
            have p158 : 0 ≤ (0 : Int) := (by omega)
            have q158 : 0 < (l0_1.length : Int) := of_decide_eq_true (by first | (with_reducible assumption) | assumption)
            obtain ⟨ad158, e158, hx158_0, hx158_1, hx158_2, hx158_3, hx158_4, hx158_5, hx158_6, hx158_7, hx158_8, hx158_9, hx158_10, hx158_11, hx158_12, hx158_13, hx158_14, hx158_15, hx158_16, hx158_17⟩ := at_T38 HR0_1.out 0 p158 q158
            cases e158
            have qi158 : (0 < l0_1.length) = True := eq_true (by omega)
            (try rw [show ((0 : Int)).toNat = 0 from rfl] at hx158_0)
            (try rw [show 0 * 18 = 0 from rfl] at hx158_0)
            (try rw [Addr.add_zero'] at hx158_0)
            (try rw [show ((0 : Int)).toNat = 0 from rfl] at hx158_1)
            (try rw [show 0 * 18 = 0 from rfl] at hx158_1)
            (try rw [Addr.add_zero'] at hx158_1)
            (try rw [show ((0 : Int)).toNat = 0 from rfl] at hx158_2)
            (try rw [show 0 * 18 = 0 from rfl] at hx158_2)
            (try rw [Addr.add_zero'] at hx158_2)
            (try rw [show ((0 : Int)).toNat = 0 from rfl] at hx158_3)
            (try rw [show 0 * 18 = 0 from rfl] at hx158_3)
            (try rw [Addr.add_zero'] at hx158_3)
            (try rw [show ((0 : Int)).toNat = 0 from rfl] at hx158_4)
            (try rw [show 0 * 18 = 0 from rfl] at hx158_4)
            (try rw [Addr.add_zero'] at hx158_4)
            (try rw [show ((0 : Int)).toNat = 0 from rfl] at hx158_5)
            (try rw [show 0 * 18 = 0 from rfl] at hx158_5)
            (try rw [Addr.add_zero'] at hx158_5)
            (try rw [show ((0 : Int)).toNat = 0 from rfl] at hx158_6)
            (try rw [show 0 * 18 = 0 from rfl] at hx158_6)
            (try rw [Addr.add_zero'] at hx158_6)
            (try rw [show ((0 : Int)).toNat = 0 from rfl] at hx158_7)
            (try rw [show 0 * 18 = 0 from rfl] at hx158_7)
            (try rw [Addr.add_zero'] at hx158_7)
            (try rw [show ((0 : Int)).toNat = 0 from rfl] at hx158_8)
            (try rw [show 0 * 18 = 0 from rfl] at hx158_8)
            (try rw [Addr.add_zero'] at hx158_8)
            (try rw [show ((0 : Int)).toNat = 0 from rfl] at hx158_9)
            (try rw [show 0 * 18 = 0 from rfl] at hx158_9)
            (try rw [Addr.add_zero'] at hx158_9)
            (try rw [show ((0 : Int)).toNat = 0 from rfl] at hx158_10)
            (try rw [show 0 * 18 = 0 from rfl] at hx158_10)
            (try rw [Addr.add_zero'] at hx158_10)
            (try rw [show ((0 : Int)).toNat = 0 from rfl] at hx158_11)
            (try rw [show 0 * 18 = 0 from rfl] at hx158_11)
            (try rw [Addr.add_zero'] at hx158_11)
            (try rw [show ((0 : Int)).toNat = 0 from rfl] at hx158_12)
            (try rw [show 0 * 18 = 0 from rfl] at hx158_12)
            (try rw [Addr.add_zero'] at hx158_12)
            (try rw [show ((0 : Int)).toNat = 0 from rfl] at hx158_13)
            (try rw [show 0 * 18 = 0 from rfl] at hx158_13)
            (try rw [Addr.add_zero'] at hx158_13)
            (try rw [show ((0 : Int)).toNat = 0 from rfl] at hx158_14)
            (try rw [show 0 * 18 = 0 from rfl] at hx158_14)
            (try rw [Addr.add_zero'] at hx158_14)
            (try rw [show ((0 : Int)).toNat = 0 from rfl] at hx158_15)
            (try rw [show 0 * 18 = 0 from rfl] at hx158_15)
            (try rw [Addr.add_zero'] at hx158_15)
            (try rw [show ((0 : Int)).toNat = 0 from rfl] at hx158_16)
            (try rw [show 0 * 18 = 0 from rfl] at hx158_16)
            (try rw [Addr.add_zero'] at hx158_16)
            (try rw [show ((0 : Int)).toNat = 0 from rfl] at hx158_17)
            (try rw [show 0 * 18 = 0 from rfl] at hx158_17)
            (try rw [Addr.add_zero'] at hx158_17)
            replace hx158_0 := (HB.out.cell (World.block_lt_of_cell? w _ hx158_0)).trans hx158_0
            replace hx158_1 := (HB.out.cell (World.block_lt_of_cell? w _ hx158_1)).trans hx158_1
            replace hx158_2 := (HB.out.cell (World.block_lt_of_cell? w _ hx158_2)).trans hx158_2
            replace hx158_3 := (HB.out.cell (World.block_lt_of_cell? w _ hx158_3)).trans hx158_3
            replace hx158_4 := (HB.out.cell (World.block_lt_of_cell? w _ hx158_4)).trans hx158_4
            replace hx158_5 := (HB.out.cell (World.block_lt_of_cell? w _ hx158_5)).trans hx158_5
            replace hx158_6 := (HB.out.cell (World.block_lt_of_cell? w _ hx158_6)).trans hx158_6
            replace hx158_7 := (HB.out.cell (World.block_lt_of_cell? w _ hx158_7)).trans hx158_7
            replace hx158_8 := (HB.out.cell (World.block_lt_of_cell? w _ hx158_8)).trans hx158_8
            replace hx158_9 := (HB.out.cell (World.block_lt_of_cell? w _ hx158_9)).trans hx158_9
            replace hx158_10 := (HB.out.cell (World.block_lt_of_cell? w _ hx158_10)).trans hx158_10
            replace hx158_11 := (HB.out.cell (World.block_lt_of_cell? w _ hx158_11)).trans hx158_11
            replace hx158_12 := (HB.out.cell (World.block_lt_of_cell? w _ hx158_12)).trans hx158_12
            replace hx158_13 := (HB.out.cell (World.block_lt_of_cell? w _ hx158_13)).trans hx158_13
            replace hx158_14 := (HB.out.cell (World.block_lt_of_cell? w _ hx158_14)).trans hx158_14
            replace hx158_15 := (HB.out.cell (World.block_lt_of_cell? w _ hx158_15)).trans hx158_15
            replace hx158_16 := (HB.out.cell (World.block_lt_of_cell? w _ hx158_16)).trans hx158_16
            replace hx158_17 := (HB.out.cell (World.block_lt_of_cell? w _ hx158_17)).trans hx158_17
            replace p158 := eq_true p158
            replace q158 := eq_true q158
            go_wp2
            go_ret2
            exact ⟨by first | rfl | (simp [errW_none, errW_some] <;> rfl) | (simp [*, errW_none, errW_some] <;> rfl), by repeat (first | (with_reducible first | exact HB.out | apply below_alloc | apply pw_below_drewN | apply below_drew1 | refine below_set ?_ GE157.out) | exact HB.out)⟩
        · rw [if_neg c7] at H
          exact absurd H (by simp)

end Go.Proofs.Ytgpldjckohlkfaa.P
