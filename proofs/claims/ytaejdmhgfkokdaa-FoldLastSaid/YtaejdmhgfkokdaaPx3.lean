-- Written by our own program (wip/pr) over the kit's print.py, with contracts of our own.
import Derived.Test.YtaejdmhgfkokdaaPx0
import Derived.Test.YtaejdmhgfkokdaaPx1
namespace Go.Proofs.Ytaejdmhgfkokdaa.P
open Go.RowKit Go.Proofs.YtaejdmhgfkokdaaW.PrintWords Go.Proofs.YtaejdmhgfkokdaaW.PrintLast Go.Proofs.YtaejdmhgfkokdaaW.PrintMore
attribute [local go_sem] max2_int min2_int max_two min_two max_three min_three max_four min_four   -- for this text's walks alone
set_option linter.unusedVariables false
set_option linter.unusedSimpArgs false

/-! ### consortlaw22_FoldLast: function 4 -/
mutual
def consortlaw22_FoldLast.j0 : Nat → ByteArray → Bool → Int → ByteArray → Option (Bool)
  | 0, _, _, _, _ => none
  | k + 1, x0, x17, x151000, x151001 => if x17 = true then (some true) else ((fold_Apply.f k x0 x151000 x151001).bind fun t152 => (if (t152.size : Int) > 4096 then (consortlaw22_FoldLast.j1 k x0 t152 true x151000 x151001) else (if (t152.size : Int) < (mn (x151001.size : Int) 4096) then (consortlaw22_FoldLast.j1 k x0 t152 true x151000 x151001) else (if 0 ≤ (wrap64 ((t152.size : Int) - (mn (x151001.size : Int) 4096))) then (if (wrap64 ((t152.size : Int) - (mn (x151001.size : Int) 4096))) ≤ (t152.size : Int) then (if 0 ≤ (wrap64 ((x151001.size : Int) - (mn (x151001.size : Int) 4096))) then (if (wrap64 ((x151001.size : Int) - (mn (x151001.size : Int) 4096))) ≤ (x151001.size : Int) then (consortlaw22_FoldLast.j1 k x0 t152 ((t152.extract ((wrap64 ((t152.size : Int) - (mn (x151001.size : Int) 4096))) : Int).toNat t152.size).toList != (x151001.extract ((wrap64 ((x151001.size : Int) - (mn (x151001.size : Int) 4096))) : Int).toNat x151001.size).toList) x151000 x151001) else (none)) else (none)) else (none)) else (none)))))
def consortlaw22_FoldLast.j1 : Nat → ByteArray → ByteArray → Bool → Int → ByteArray → Option (Bool)
  | 0, _, _, _, _, _ => none
  | k + 1, x0, x5, x50, x151000, x151001 => if x50 = true then (some false) else (if (wrap64 ((wrap64 ((x0.size : Int) + (x151001.size : Int))) + 3)) ≤ 4096 then (if (x5.size : Int) = (wrap64 ((wrap64 ((x0.size : Int) + (x151001.size : Int))) + 3)) then (if 0 ≤ (x0.size : Int) then (if (x0.size : Int) ≤ (x5.size : Int) then (some ((x5.extract 0 ((x0.size : Int) : Int).toNat).toList == x0.toList)) else (none)) else (none)) else (some false)) else (some ((x5.size : Int) == 4096)))
end
def consortlaw22_FoldLast.f (k : Nat) (a0 : ByteArray) (a1_0 : Int) (a1_1 : ByteArray) : Option (Bool) := (consortlaw22_awake.f k).bind fun t151 => (if t151 = true then (if (a0.size : Int) > 20000 then (consortlaw22_FoldLast.j0 k a0 true a1_0 a1_1) else (consortlaw22_FoldLast.j0 k a0 (decide ((a1_1.size : Int) > 60000)) a1_0 a1_1)) else (some false))
theorem consortlaw22_FoldLast.mono_l : ∀ k, (∀ y0 y1 y2 y3, LeO (consortlaw22_FoldLast.j0 k y0 y1 y2 y3) (consortlaw22_FoldLast.j0 (k + 1) y0 y1 y2 y3)) ∧ (∀ y0 y1 y2 y3 y4, LeO (consortlaw22_FoldLast.j1 k y0 y1 y2 y3 y4) (consortlaw22_FoldLast.j1 (k + 1) y0 y1 y2 y3 y4))
  | 0 => ⟨fun _ _ _ _ r h => by simp [consortlaw22_FoldLast.j0] at h, fun _ _ _ _ _ r h => by simp [consortlaw22_FoldLast.j1] at h⟩
  | k + 1 => by
    obtain ⟨ih0, ih1⟩ := consortlaw22_FoldLast.mono_l k
    refine ⟨?_, ?_⟩
    · intro y0 y1 y2 y3
      unfold consortlaw22_FoldLast.j0
      repeat' first
      | (with_reducible exact ih0 _ _ _ _)
      | (with_reducible exact ih1 _ _ _ _ _)
      | (with_reducible exact consortlaw22_awake.mono _)
      | (with_reducible exact fold_Apply.mono _ _ _ _)
      | (with_reducible exact LeO.refl _)
      | (with_reducible exact LeO.none _)
      | (with_reducible refine LeO.ite ?_ ?_)
      | (with_reducible refine LeO.bind ?_ (fun _ => ?_))
      | exact ih0 _ _ _ _
      | exact ih1 _ _ _ _ _
      | exact consortlaw22_awake.mono _
      | exact fold_Apply.mono _ _ _ _
      | exact LeO.none _
      | refine LeO.ite ?_ ?_
      | refine LeO.bind ?_ (fun _ => ?_)
    · intro y0 y1 y2 y3 y4
      unfold consortlaw22_FoldLast.j1
      repeat' first
      | (with_reducible exact ih0 _ _ _ _)
      | (with_reducible exact ih1 _ _ _ _ _)
      | (with_reducible exact consortlaw22_awake.mono _)
      | (with_reducible exact fold_Apply.mono _ _ _ _)
      | (with_reducible exact LeO.refl _)
      | (with_reducible exact LeO.none _)
      | (with_reducible refine LeO.ite ?_ ?_)
      | (with_reducible refine LeO.bind ?_ (fun _ => ?_))
      | exact ih0 _ _ _ _
      | exact ih1 _ _ _ _ _
      | exact consortlaw22_awake.mono _
      | exact fold_Apply.mono _ _ _ _
      | exact LeO.none _
      | refine LeO.ite ?_ ?_
      | refine LeO.bind ?_ (fun _ => ?_)
theorem consortlaw22_FoldLast.mono : ∀ a0 a1 a2 k, LeO (consortlaw22_FoldLast.f k a0 a1 a2) (consortlaw22_FoldLast.f (k + 1) a0 a1 a2) := by
  intro a0 a1 a2 k
  obtain ⟨ih0, ih1⟩ := consortlaw22_FoldLast.mono_l k
  unfold consortlaw22_FoldLast.f
  repeat' first
      | (with_reducible exact ih0 _ _ _ _)
      | (with_reducible exact ih1 _ _ _ _ _)
      | (with_reducible exact consortlaw22_awake.mono _)
      | (with_reducible exact fold_Apply.mono _ _ _ _)
      | (with_reducible exact LeO.refl _)
      | (with_reducible exact LeO.none _)
      | (with_reducible refine LeO.ite ?_ ?_)
      | (with_reducible refine LeO.bind ?_ (fun _ => ?_))
      | exact ih0 _ _ _ _
      | exact ih1 _ _ _ _ _
      | exact consortlaw22_awake.mono _
      | exact fold_Apply.mono _ _ _ _
      | exact LeO.none _
      | refine LeO.ite ?_ ?_
      | refine LeO.bind ?_ (fun _ => ?_)
set_option maxHeartbeats 8000000 in
set_option maxRecDepth 100000 in
theorem consortlaw22_FoldLast.calls (k : Nat) (a0 : ByteArray) (a1_0 : Int) (a1_1 : ByteArray) (r : Bool) (w : World) (h : consortlaw22_FoldLast.f k a0 a1_0 a1_1 = some r) :
    Calls Try.prog 4 #[.string a0, .agg #[.int .i64 a1_0, .string a1_1]] w fun e w' => e = .returned (.bool r) ∧ Below w.heap.size w w' := by
  have hu27 := Try.underlying27
  have HB := Aside0.mk (Below.refl w.heap.size w)
  have H : ((consortlaw22_awake.f k).bind fun t151 => (if t151 = true then (if (a0.size : Int) > 20000 then (consortlaw22_FoldLast.j0 k a0 true a1_0 a1_1) else (consortlaw22_FoldLast.j0 k a0 (decide ((a1_1.size : Int) > 60000)) a1_0 a1_1)) else (some false))) = some r := h
  clear h
  replace H := Option.bind_eq_some_iff.mp H
  obtain ⟨t151, A30, H⟩ := H
  replace H : (if t151 = true then (if (a0.size : Int) > 20000 then (consortlaw22_FoldLast.j0 k a0 true a1_0 a1_1) else (consortlaw22_FoldLast.j0 k a0 (decide ((a1_1.size : Int) > 60000)) a1_0 a1_1)) else (some false)) = some r := H
  have A3 := Aside0.mk A30
  clear A30
  by_cases c4 : t151 = true
  · subst c4
    have H1 : (if (a0.size : Int) > 20000 then (consortlaw22_FoldLast.j0 k a0 true a1_0 a1_1) else (consortlaw22_FoldLast.j0 k a0 (decide ((a1_1.size : Int) > 60000)) a1_0 a1_1)) = some r := by rw [if_pos rfl] at H; exact H
    clear H
    have H := H1
    clear H1
    have HC5 := Aside0.mk H
    clear H
    go_enter Try.func4, Try.ntmps4
    go_upto_region 3 with (first | ((with_reducible refine gate_dst (N := 3) rfl ?_); (try (refine gate_guard (by rfl) ?_; dsimp only)); refine box_event ?hg (N := 3) ?hd (cs := #[.int .i64 a1_0, .string a1_1]) (t := 27) ?hr ?_; (case hd => rfl); (case hg => rfl); (case hr => first | (go_simp; done) | (go_simp; rfl)); intro gb150 hg w6 hbox hb; have n0_ := Aside0.mk (below_step (by repeat (first | (with_reducible first | exact HB.out | apply below_alloc | apply pw_below_drewN | apply below_drew1) | exact HB.out)) hb); have n1_ := Aside0.mk (hbox); have n2_ := Aside0.mk ((by rw [hg]; exact (below_size (by repeat (first | (with_reducible first | exact HB.out | apply below_alloc | apply pw_below_drewN | apply below_drew1) | exact HB.out))) : w.heap.size ≤ gb150)); have n3_ := Aside0.mk ((by rw [hg]; exact (below_size (by repeat (first | (with_reducible first | exact HB.out | apply below_alloc | apply pw_below_drewN | apply below_drew1) | exact HB.out))) : w.heap.size ≤ gb150)); clear HB; have HB := n0_; have BK150 := n1_; have GW150 := n2_; have GE150 := n3_; clear n0_ n1_ n2_ n3_; clear hb hbox hg) | (go_at_call 6; (with_reducible refine (consortlaw22_awake.calls k  true _ A3.out).mono ?_); rintro e w7 ⟨rfl, hb⟩; have n0_ := Aside0.mk (blk_below (g := gb150) (o := .cells #[.int .i64 a1_0, .string a1_1] 27 (0, 0)) (by (with_reducible repeat (first | refine blk_drewN ?_ _ | refine blk_drew ?_ | refine blk_alloc ?_ _)); exact BK150.out) hb); have n1_ := Aside0.mk (below_step (by repeat (first | (with_reducible first | exact HB.out | apply below_alloc | apply pw_below_drewN | apply below_drew1 | refine below_set ?_ GE150.out) | exact HB.out)) hb); clear BK150; clear HB; have BK150 := n0_; have HB := n1_; clear n0_ n1_; (try clear hb); (try clear hb2); (try clear hk); (try clear hi)))
    repeat (go_quiet (first | ((with_reducible refine gate_dst (N := 3) rfl ?_); (try (refine gate_guard (by rfl) ?_; dsimp only)); refine box_event ?hg (N := 3) ?hd (cs := #[.int .i64 a1_0, .string a1_1]) (t := 27) ?hr ?_; (case hd => rfl); (case hg => rfl); (case hr => first | (go_simp; done) | (go_simp; rfl)); intro gb150 hg w6 hbox hb; have n0_ := Aside0.mk (below_step (by repeat (first | (with_reducible first | exact HB.out | apply below_alloc | apply pw_below_drewN | apply below_drew1) | exact HB.out)) hb); have n1_ := Aside0.mk (hbox); have n2_ := Aside0.mk ((by rw [hg]; exact (below_size (by repeat (first | (with_reducible first | exact HB.out | apply below_alloc | apply pw_below_drewN | apply below_drew1) | exact HB.out))) : w.heap.size ≤ gb150)); have n3_ := Aside0.mk ((by rw [hg]; exact (below_size (by repeat (first | (with_reducible first | exact HB.out | apply below_alloc | apply pw_below_drewN | apply below_drew1) | exact HB.out))) : w.heap.size ≤ gb150)); clear HB; have HB := n0_; have BK150 := n1_; have GW150 := n2_; have GE150 := n3_; clear n0_ n1_ n2_ n3_; clear hb hbox hg) | (go_at_call 6; (with_reducible refine (consortlaw22_awake.calls k  true _ A3.out).mono ?_); rintro e w7 ⟨rfl, hb⟩; have n0_ := Aside0.mk (blk_below (g := gb150) (o := .cells #[.int .i64 a1_0, .string a1_1] 27 (0, 0)) (by (with_reducible repeat (first | refine blk_drewN ?_ _ | refine blk_drew ?_ | refine blk_alloc ?_ _)); exact BK150.out) hb); have n1_ := Aside0.mk (below_step (by repeat (first | (with_reducible first | exact HB.out | apply below_alloc | apply pw_below_drewN | apply below_drew1 | refine below_set ?_ GE150.out) | exact HB.out)) hb); clear BK150; clear HB; have BK150 := n0_; have HB := n1_; clear n0_ n1_; (try clear hb); (try clear hb2); (try clear hk); (try clear hi))); go_upto_region 3 with (first | ((with_reducible refine gate_dst (N := 3) rfl ?_); (try (refine gate_guard (by rfl) ?_; dsimp only)); refine box_event ?hg (N := 3) ?hd (cs := #[.int .i64 a1_0, .string a1_1]) (t := 27) ?hr ?_; (case hd => rfl); (case hg => rfl); (case hr => first | (go_simp; done) | (go_simp; rfl)); intro gb150 hg w6 hbox hb; have n0_ := Aside0.mk (below_step (by repeat (first | (with_reducible first | exact HB.out | apply below_alloc | apply pw_below_drewN | apply below_drew1) | exact HB.out)) hb); have n1_ := Aside0.mk (hbox); have n2_ := Aside0.mk ((by rw [hg]; exact (below_size (by repeat (first | (with_reducible first | exact HB.out | apply below_alloc | apply pw_below_drewN | apply below_drew1) | exact HB.out))) : w.heap.size ≤ gb150)); have n3_ := Aside0.mk ((by rw [hg]; exact (below_size (by repeat (first | (with_reducible first | exact HB.out | apply below_alloc | apply pw_below_drewN | apply below_drew1) | exact HB.out))) : w.heap.size ≤ gb150)); clear HB; have HB := n0_; have BK150 := n1_; have GW150 := n2_; have GE150 := n3_; clear n0_ n1_ n2_ n3_; clear hb hbox hg) | (go_at_call 6; (with_reducible refine (consortlaw22_awake.calls k  true _ A3.out).mono ?_); rintro e w7 ⟨rfl, hb⟩; have n0_ := Aside0.mk (blk_below (g := gb150) (o := .cells #[.int .i64 a1_0, .string a1_1] 27 (0, 0)) (by (with_reducible repeat (first | refine blk_drewN ?_ _ | refine blk_drew ?_ | refine blk_alloc ?_ _)); exact BK150.out) hb); have n1_ := Aside0.mk (below_step (by repeat (first | (with_reducible first | exact HB.out | apply below_alloc | apply pw_below_drewN | apply below_drew1 | refine below_set ?_ GE150.out) | exact HB.out)) hb); clear BK150; clear HB; have BK150 := n0_; have HB := n1_; clear n0_ n1_; (try clear hb); (try clear hb2); (try clear hk); (try clear hi))))
    (try simp only [Act.put, List.setIfInBounds_toArray, List.set_cons_zero, List.set_cons_succ])
    go_cut [17] (fun v17 wc => ∃ (kq : Nat) (x17_4 : Bool), v17 = .bool x17_4 ∧ Aside0 (consortlaw22_FoldLast.j0 kq a0 x17_4 a1_0 a1_1 = some r) ∧ Aside0 (kq ≤ k) ∧ Aside0 (wc.heap[gb150]? = some (.cells #[.int .i64 a1_0, .string a1_1] 27 (0, 0))) ∧ Aside0 (Below w.heap.size w wc))
    case first =>
      have H := HC5.out
      clear HC5
      by_cases c8 : (a0.size : Int) > 20000
      · rw [if_pos c8] at H
        have c8b0 : decide (20000 < (a0.size : Int)) = true := decide_eq_true c8
        have c8b1 : decide (20000 < a0.size) = true := decide_eq_true (by omega)
        clear c8
        (first | rw [c8b0] | (simp only [i64_w, i32_w]; rw [c8b0]) | skip)
        have H' := Aside0.mk H
        clear H
        go_wp2
        repeat (go_quiet (fail); try go_wp2)
        go_meet
        case rel => exact ⟨_, (true), (by first | rfl | (simp; done) | (simp [*]; done)), H', ⟨by first | omega | exact Nat.le_refl _⟩, ⟨by (with_reducible repeat (first | refine blk_drewN ?_ _ | refine blk_drew ?_ | refine blk_alloc ?_ _)); exact BK150.out⟩, ⟨by repeat (first | (with_reducible first | exact HB.out | apply below_alloc | apply pw_below_drewN | apply below_drew1 | refine below_set ?_ GE150.out) | exact HB.out)⟩⟩
      · rw [if_neg c8] at H
        have c8b0 : decide (20000 < (a0.size : Int)) = false := decide_eq_false c8
        have c8b1 : decide (20000 < a0.size) = false := decide_eq_false (by omega)
        clear c8
        (first | rw [c8b0] | (simp only [i64_w, i32_w]; rw [c8b0]) | skip)
        have H' := Aside0.mk H
        clear H
        have hcz9_0 : w7.cell? ⟨gb150, 0, none⟩ = some (.int .i64 a1_0) := (blk_cell BK150.out 0).trans rfl
        have hcz9_1 : w7.cell? ⟨gb150, 1, none⟩ = some (.string a1_1) := (blk_cell BK150.out 1).trans rfl
        have hfz9_0 := blk_frozen BK150.out 0
        have hfz9_1 := blk_frozen BK150.out 1
        go_wp2
        repeat (go_quiet (fail); try go_wp2)
        go_meet
        case rel => exact ⟨_, (decide ((a1_1.size : Int) > 60000)), (by first | rfl | (simp; done) | (simp [*]; done)), H', ⟨by first | omega | exact Nat.le_refl _⟩, ⟨by (with_reducible repeat (first | refine blk_drewN ?_ _ | refine blk_drew ?_ | refine blk_alloc ?_ _)); exact BK150.out⟩, ⟨by repeat (first | (with_reducible first | exact HB.out | apply below_alloc | apply pw_below_drewN | apply below_drew1 | refine below_set ?_ GE150.out) | exact HB.out)⟩⟩
    case rest =>
      clear HC5
      try clear p2
      try clear c4
      try clear c8
      try clear c8b0
      try clear c8b1
      try clear hcz9_0
      try clear hcz9_1
      try clear hfz9_0
      try clear hfz9_1
      obtain ⟨kq, x17_4, rfl, HA, HJ4, BK150, HB⟩ := hcut
      cases kq with
      | zero => exact absurd HA.out (by simp [consortlaw22_FoldLast.j0])
      | succ kj4 =>
        have H := HA.out
        clear HA
        simp only [consortlaw22_FoldLast.j0] at H
        by_cases c10 : x17_4 = true
        · subst c10
          have H1 : (some true) = some r := by rw [if_pos rfl] at H; exact H
          clear H
          have H := H1
          clear H1
          obtain rfl := Option.some.inj H
          go_wp2
          repeat (go_quiet (fail); try go_wp2)
          go_ret
          exact ⟨by first | rfl | (simp [errW_none, errW_some] <;> rfl) | (simp [*, errW_none, errW_some] <;> rfl), by repeat (first | (with_reducible first | exact HB.out | apply below_alloc | apply pw_below_drewN | apply below_drew1 | refine below_set ?_ GE150.out) | exact HB.out)⟩
        · replace c10 := Bool.eq_false_iff.mpr c10
          subst c10
          have H1 : ((fold_Apply.f kj4 a0 a1_0 a1_1).bind fun t152 => (if (t152.size : Int) > 4096 then (consortlaw22_FoldLast.j1 kj4 a0 t152 true a1_0 a1_1) else (if (t152.size : Int) < (mn (a1_1.size : Int) 4096) then (consortlaw22_FoldLast.j1 kj4 a0 t152 true a1_0 a1_1) else (if 0 ≤ (wrap64 ((t152.size : Int) - (mn (a1_1.size : Int) 4096))) then (if (wrap64 ((t152.size : Int) - (mn (a1_1.size : Int) 4096))) ≤ (t152.size : Int) then (if 0 ≤ (wrap64 ((a1_1.size : Int) - (mn (a1_1.size : Int) 4096))) then (if (wrap64 ((a1_1.size : Int) - (mn (a1_1.size : Int) 4096))) ≤ (a1_1.size : Int) then (consortlaw22_FoldLast.j1 kj4 a0 t152 ((t152.extract ((wrap64 ((t152.size : Int) - (mn (a1_1.size : Int) 4096))) : Int).toNat t152.size).toList != (a1_1.extract ((wrap64 ((a1_1.size : Int) - (mn (a1_1.size : Int) 4096))) : Int).toNat a1_1.size).toList) a1_0 a1_1) else (none)) else (none)) else (none)) else (none))))) = some r := by rw [if_neg (show ¬ (false = true) by decide)] at H; exact H
          clear H
          have H := H1
          clear H1
          replace H := Option.bind_eq_some_iff.mp H
          obtain ⟨t152, A110, H⟩ := H
          replace H : (if (t152.size : Int) > 4096 then (consortlaw22_FoldLast.j1 kj4 a0 t152 true a1_0 a1_1) else (if (t152.size : Int) < (mn (a1_1.size : Int) 4096) then (consortlaw22_FoldLast.j1 kj4 a0 t152 true a1_0 a1_1) else (if 0 ≤ (wrap64 ((t152.size : Int) - (mn (a1_1.size : Int) 4096))) then (if (wrap64 ((t152.size : Int) - (mn (a1_1.size : Int) 4096))) ≤ (t152.size : Int) then (if 0 ≤ (wrap64 ((a1_1.size : Int) - (mn (a1_1.size : Int) 4096))) then (if (wrap64 ((a1_1.size : Int) - (mn (a1_1.size : Int) 4096))) ≤ (a1_1.size : Int) then (consortlaw22_FoldLast.j1 kj4 a0 t152 ((t152.extract ((wrap64 ((t152.size : Int) - (mn (a1_1.size : Int) 4096))) : Int).toNat t152.size).toList != (a1_1.extract ((wrap64 ((a1_1.size : Int) - (mn (a1_1.size : Int) 4096))) : Int).toNat a1_1.size).toList) a1_0 a1_1) else (none)) else (none)) else (none)) else (none)))) = some r := H
          have A11 := Aside0.mk A110
          clear A110
          obtain ⟨ji12, hji12⟩ : ∃ j_ : Int, (mn (a1_1.size : Int) 4096) = j_ := ⟨_, rfl⟩
          replace H : (if (t152.size : Int) > 4096 then (consortlaw22_FoldLast.j1 kj4 a0 t152 true a1_0 a1_1) else (if (t152.size : Int) < (ji12) then (consortlaw22_FoldLast.j1 kj4 a0 t152 true a1_0 a1_1) else (if 0 ≤ (wrap64 ((t152.size : Int) - (ji12))) then (if (wrap64 ((t152.size : Int) - (ji12))) ≤ (t152.size : Int) then (if 0 ≤ (wrap64 ((a1_1.size : Int) - (ji12))) then (if (wrap64 ((a1_1.size : Int) - (ji12))) ≤ (a1_1.size : Int) then (consortlaw22_FoldLast.j1 kj4 a0 t152 ((t152.extract ((wrap64 ((t152.size : Int) - (ji12))) : Int).toNat t152.size).toList != (a1_1.extract ((wrap64 ((a1_1.size : Int) - (ji12))) : Int).toNat a1_1.size).toList) a1_0 a1_1) else (none)) else (none)) else (none)) else (none)))) = some r := by first | (rw [hji12] at H; exact H) | (simp only [hji12] at H ⊢; exact H)
          (try rw [hji12] at A11)
          have hji12_ : (if 4096 < (a1_1.size : Int) then 4096 else (a1_1.size : Int)) = ji12 := hji12
          have HC13 := Aside0.mk H
          clear H
          have hcz14_0 : wc.cell? ⟨gb150, 0, none⟩ = some (.int .i64 a1_0) := (blk_cell BK150.out 0).trans rfl
          have hcz14_1 : wc.cell? ⟨gb150, 1, none⟩ = some (.string a1_1) := (blk_cell BK150.out 1).trans rfl
          have hfz14_0 := blk_frozen BK150.out 0
          have hfz14_1 := blk_frozen BK150.out 1
          go_upto_region 7 with (first | (go_at_call 9; (with_reducible refine (fold_Apply.calls kj4 a0 a1_0 a1_1 t152 _ A11.out).mono ?_); rintro e w15 ⟨rfl, hb⟩; have n0_ := Aside0.mk (blk_below (g := gb150) (o := .cells #[.int .i64 a1_0, .string a1_1] 27 (0, 0)) (by (with_reducible repeat (first | refine blk_drewN ?_ _ | refine blk_drew ?_ | refine blk_alloc ?_ _)); exact BK150.out) hb); have n1_ := Aside0.mk (below_step (by repeat (first | (with_reducible first | exact HB.out | apply below_alloc | apply pw_below_drewN | apply below_drew1 | refine below_set ?_ GE150.out) | exact HB.out)) hb); clear BK150; clear HB; have BK150 := n0_; have HB := n1_; clear n0_ n1_; (try clear hb); (try clear hb2); (try clear hk); (try clear hi); have hcz16_0 : w15.cell? ⟨gb150, 0, none⟩ = some (.int .i64 a1_0) := (blk_cell BK150.out 0).trans rfl; have hcz16_1 : w15.cell? ⟨gb150, 1, none⟩ = some (.string a1_1) := (blk_cell BK150.out 1).trans rfl; have hfz16_0 := blk_frozen BK150.out 0; have hfz16_1 := blk_frozen BK150.out 1))
          repeat (go_quiet (first | (go_at_call 9; (with_reducible refine (fold_Apply.calls kj4 a0 a1_0 a1_1 t152 _ A11.out).mono ?_); rintro e w15 ⟨rfl, hb⟩; have n0_ := Aside0.mk (blk_below (g := gb150) (o := .cells #[.int .i64 a1_0, .string a1_1] 27 (0, 0)) (by (with_reducible repeat (first | refine blk_drewN ?_ _ | refine blk_drew ?_ | refine blk_alloc ?_ _)); exact BK150.out) hb); have n1_ := Aside0.mk (below_step (by repeat (first | (with_reducible first | exact HB.out | apply below_alloc | apply pw_below_drewN | apply below_drew1 | refine below_set ?_ GE150.out) | exact HB.out)) hb); clear BK150; clear HB; have BK150 := n0_; have HB := n1_; clear n0_ n1_; (try clear hb); (try clear hb2); (try clear hk); (try clear hi); have hcz16_0 : w15.cell? ⟨gb150, 0, none⟩ = some (.int .i64 a1_0) := (blk_cell BK150.out 0).trans rfl; have hcz16_1 : w15.cell? ⟨gb150, 1, none⟩ = some (.string a1_1) := (blk_cell BK150.out 1).trans rfl; have hfz16_0 := blk_frozen BK150.out 0; have hfz16_1 := blk_frozen BK150.out 1)); go_upto_region 7 with (first | (go_at_call 9; (with_reducible refine (fold_Apply.calls kj4 a0 a1_0 a1_1 t152 _ A11.out).mono ?_); rintro e w15 ⟨rfl, hb⟩; have n0_ := Aside0.mk (blk_below (g := gb150) (o := .cells #[.int .i64 a1_0, .string a1_1] 27 (0, 0)) (by (with_reducible repeat (first | refine blk_drewN ?_ _ | refine blk_drew ?_ | refine blk_alloc ?_ _)); exact BK150.out) hb); have n1_ := Aside0.mk (below_step (by repeat (first | (with_reducible first | exact HB.out | apply below_alloc | apply pw_below_drewN | apply below_drew1 | refine below_set ?_ GE150.out) | exact HB.out)) hb); clear BK150; clear HB; have BK150 := n0_; have HB := n1_; clear n0_ n1_; (try clear hb); (try clear hb2); (try clear hk); (try clear hi); have hcz16_0 : w15.cell? ⟨gb150, 0, none⟩ = some (.int .i64 a1_0) := (blk_cell BK150.out 0).trans rfl; have hcz16_1 : w15.cell? ⟨gb150, 1, none⟩ = some (.string a1_1) := (blk_cell BK150.out 1).trans rfl; have hfz16_0 := blk_frozen BK150.out 0; have hfz16_1 := blk_frozen BK150.out 1)))
          (try simp only [Act.put, List.setIfInBounds_toArray, List.set_cons_zero, List.set_cons_succ])
          go_cut [50] (fun v50 wc => ∃ (kq : Nat) (x50_12 : Bool), v50 = .bool x50_12 ∧ Aside0 (consortlaw22_FoldLast.j1 kq a0 t152 x50_12 a1_0 a1_1 = some r) ∧ Aside0 (kq ≤ kj4) ∧ Aside0 (wc.heap[gb150]? = some (.cells #[.int .i64 a1_0, .string a1_1] 27 (0, 0))) ∧ Aside0 (Below w.heap.size w wc))
          case first =>
            have H := HC13.out
            clear HC13
            by_cases c17 : (t152.size : Int) > 4096
            · rw [if_pos c17] at H
              have c17b0 : decide (4096 < (t152.size : Int)) = true := decide_eq_true c17
              have c17b1 : decide (4096 < t152.size) = true := decide_eq_true (by omega)
              clear c17
              (first | rw [c17b0] | (simp only [i64_w, i32_w]; rw [c17b0]) | skip)
              have H' := Aside0.mk H
              clear H
              go_wp2
              repeat (go_quiet (fail); try go_wp2)
              go_meet
              case rel => exact ⟨_, (true), (by first | rfl | (simp; done) | (simp [*]; done)), H', ⟨by have := HJ4.out; first | omega | exact Nat.le_refl _⟩, ⟨by (with_reducible repeat (first | refine blk_drewN ?_ _ | refine blk_drew ?_ | refine blk_alloc ?_ _)); exact BK150.out⟩, ⟨by repeat (first | (with_reducible first | exact HB.out | apply below_alloc | apply pw_below_drewN | apply below_drew1 | refine below_set ?_ GE150.out) | exact HB.out)⟩⟩
            · rw [if_neg c17] at H
              have c17b0 : decide (4096 < (t152.size : Int)) = false := decide_eq_false c17
              have c17b1 : decide (4096 < t152.size) = false := decide_eq_false (by omega)
              clear c17
              (first | rw [c17b0] | (simp only [i64_w, i32_w]; rw [c17b0]) | skip)
              by_cases c18 : (t152.size : Int) < (ji12)
              · rw [if_pos c18] at H
                have c18b0 : decide ((t152.size : Int) < (ji12)) = true := decide_eq_true c18
                clear c18
                have H' := Aside0.mk H
                clear H
                go_wp2
                repeat (go_quiet (fail); try go_wp2)
                go_meet
                case rel => exact ⟨_, (true), (by first | rfl | (simp; done) | (simp [*]; done)), H', ⟨by have := HJ4.out; first | omega | exact Nat.le_refl _⟩, ⟨by (with_reducible repeat (first | refine blk_drewN ?_ _ | refine blk_drew ?_ | refine blk_alloc ?_ _)); exact BK150.out⟩, ⟨by repeat (first | (with_reducible first | exact HB.out | apply below_alloc | apply pw_below_drewN | apply below_drew1 | refine below_set ?_ GE150.out) | exact HB.out)⟩⟩
              · rw [if_neg c18] at H
                have c18b0 : decide ((t152.size : Int) < (ji12)) = false := decide_eq_false c18
                clear c18
                obtain ⟨ji19, hji19⟩ : ∃ j_ : Int, (wrap64 ((t152.size : Int) - (ji12))) = j_ := ⟨_, rfl⟩
                replace H : (if 0 ≤ (ji19) then (if (ji19) ≤ (t152.size : Int) then (if 0 ≤ (wrap64 ((a1_1.size : Int) - (ji12))) then (if (wrap64 ((a1_1.size : Int) - (ji12))) ≤ (a1_1.size : Int) then (consortlaw22_FoldLast.j1 kj4 a0 t152 ((t152.extract ((ji19) : Int).toNat t152.size).toList != (a1_1.extract ((wrap64 ((a1_1.size : Int) - (ji12))) : Int).toNat a1_1.size).toList) a1_0 a1_1) else (none)) else (none)) else (none)) else (none)) = some r := by first | (rw [hji19] at H; exact H) | (simp only [hji19] at H ⊢; exact H)
                have hji19w : (IntKind.i64.wrap ((t152.size : Int) - (ji12))) = ji19 := (i64_w _).trans hji19
                by_cases c20 : 0 ≤ (ji19)
                · rw [if_pos c20] at H
                  have c20b0 := eq_true c20
                  have c20b1 : decide (0 ≤ (ji19)) = true := decide_eq_true c20
                  clear c20
                  by_cases c21 : (ji19) ≤ (t152.size : Int)
                  · rw [if_pos c21] at H
                    have c21b0 := eq_true c21
                    have c21b1 : decide ((ji19) ≤ (t152.size : Int)) = true := decide_eq_true c21
                    clear c21
                    obtain ⟨ji22, hji22⟩ : ∃ j_ : Int, (wrap64 ((a1_1.size : Int) - (ji12))) = j_ := ⟨_, rfl⟩
                    replace H : (if 0 ≤ (ji22) then (if (ji22) ≤ (a1_1.size : Int) then (consortlaw22_FoldLast.j1 kj4 a0 t152 ((t152.extract ((ji19) : Int).toNat t152.size).toList != (a1_1.extract ((ji22) : Int).toNat a1_1.size).toList) a1_0 a1_1) else (none)) else (none)) = some r := by first | (rw [hji22] at H; exact H) | (simp only [hji22] at H ⊢; exact H)
                    have hji22w : (IntKind.i64.wrap ((a1_1.size : Int) - (ji12))) = ji22 := (i64_w _).trans hji22
                    by_cases c23 : 0 ≤ (ji22)
                    · rw [if_pos c23] at H
                      have c23b0 := eq_true c23
                      have c23b1 : decide (0 ≤ (ji22)) = true := decide_eq_true c23
                      clear c23
                      by_cases c24 : (ji22) ≤ (a1_1.size : Int)
                      · rw [if_pos c24] at H
                        have c24b0 := eq_true c24
                        have c24b1 : decide ((ji22) ≤ (a1_1.size : Int)) = true := decide_eq_true c24
                        clear c24
                        have H' := Aside0.mk H
                        clear H
                        have hcz25_0 : w15.cell? ⟨gb150, 0, none⟩ = some (.int .i64 a1_0) := (blk_cell BK150.out 0).trans rfl
                        have hcz25_1 : w15.cell? ⟨gb150, 1, none⟩ = some (.string a1_1) := (blk_cell BK150.out 1).trans rfl
                        have hfz25_0 := blk_frozen BK150.out 0
                        have hfz25_1 := blk_frozen BK150.out 1
                        go_wp2
                        repeat (go_quiet (fail); try go_wp2)
                        go_meet
                        case rel => exact ⟨_, (((t152.extract ((ji19) : Int).toNat t152.size).toList != (a1_1.extract ((ji22) : Int).toNat a1_1.size).toList)), (by first | rfl | (simp; done) | (simp only [← hji19, ← hji22] <;> (first | rfl | simp)) | (simp [*]; done)), H', ⟨by have := HJ4.out; first | omega | exact Nat.le_refl _⟩, ⟨by (with_reducible repeat (first | refine blk_drewN ?_ _ | refine blk_drew ?_ | refine blk_alloc ?_ _)); exact BK150.out⟩, ⟨by repeat (first | (with_reducible first | exact HB.out | apply below_alloc | apply pw_below_drewN | apply below_drew1 | refine below_set ?_ GE150.out) | exact HB.out)⟩⟩
                      · rw [if_neg c24] at H
                        exact absurd H (by simp)
                    · rw [if_neg c23] at H
                      exact absurd H (by simp)
                  · rw [if_neg c21] at H
                    exact absurd H (by simp)
                · rw [if_neg c20] at H
                  exact absurd H (by simp)
          case rest =>
            clear HC13
            try clear c1
            try clear c2
            try clear p2
            try clear c4
            try clear p6
            try clear c8
            try clear c8b0
            try clear c8b1
            try clear c10
            try clear c17
            try clear c17b0
            try clear c17b1
            try clear c18
            try clear c18b0
            try clear c20
            try clear c20b0
            try clear c20b1
            try clear c21
            try clear c21b0
            try clear c21b1
            try clear c23
            try clear c23b0
            try clear c23b1
            try clear c24
            try clear c24b0
            try clear c24b1
            try clear hcz14_0
            try clear hcz14_1
            try clear hcz16_0
            try clear hcz16_1
            try clear hcz25_0
            try clear hcz25_1
            try clear hcz9_0
            try clear hcz9_1
            try clear hfz14_0
            try clear hfz14_1
            try clear hfz16_0
            try clear hfz16_1
            try clear hfz25_0
            try clear hfz25_1
            try clear hfz9_0
            try clear hfz9_1
            try clear p2
            obtain ⟨kq, x50_12, rfl, HA, HJ12, BK150, HB⟩ := hcut
            cases kq with
            | zero => exact absurd HA.out (by simp [consortlaw22_FoldLast.j1])
            | succ kj12 =>
              have H := HA.out
              clear HA
              simp only [consortlaw22_FoldLast.j1] at H
              by_cases c26 : x50_12 = true
              · subst c26
                have H1 : (some false) = some r := by rw [if_pos rfl] at H; exact H
                clear H
                have H := H1
                clear H1
                obtain rfl := Option.some.inj H
                go_wp2
                repeat (go_quiet (fail); try go_wp2)
                go_ret
                exact ⟨by first | rfl | (simp [errW_none, errW_some] <;> rfl) | (simp only [← hji12]; first | rfl | (simp [errW_none, errW_some] <;> rfl)) | (simp [*, errW_none, errW_some] <;> rfl), by repeat (first | (with_reducible first | exact HB.out | apply below_alloc | apply pw_below_drewN | apply below_drew1 | refine below_set ?_ GE150.out) | exact HB.out)⟩
              · replace c26 := Bool.eq_false_iff.mpr c26
                subst c26
                have H1 : (if (wrap64 ((wrap64 ((a0.size : Int) + (a1_1.size : Int))) + 3)) ≤ 4096 then (if (t152.size : Int) = (wrap64 ((wrap64 ((a0.size : Int) + (a1_1.size : Int))) + 3)) then (if 0 ≤ (a0.size : Int) then (if (a0.size : Int) ≤ (t152.size : Int) then (some ((t152.extract 0 ((a0.size : Int) : Int).toNat).toList == a0.toList)) else (none)) else (none)) else (some false)) else (some ((t152.size : Int) == 4096))) = some r := by rw [if_neg (show ¬ (false = true) by decide)] at H; exact H
                clear H
                have H := H1
                clear H1
                by_cases c27 : (wrap64 ((wrap64 ((a0.size : Int) + (a1_1.size : Int))) + 3)) ≤ 4096
                · rw [if_pos c27] at H
                  have c27b0 : decide ((wrap64 ((wrap64 ((a0.size : Int) + (a1_1.size : Int))) + 3)) ≤ 4096) = true := decide_eq_true c27
                  clear c27
                  by_cases c28 : (t152.size : Int) = (wrap64 ((wrap64 ((a0.size : Int) + (a1_1.size : Int))) + 3))
                  · rw [if_pos c28] at H
                    have c28b0 : ((t152.size : Int) == (wrap64 ((wrap64 ((a0.size : Int) + (a1_1.size : Int))) + 3))) = true := beq_iff_eq.mpr c28
                    have c28b1 : ((t152.size : Int) != (wrap64 ((wrap64 ((a0.size : Int) + (a1_1.size : Int))) + 3))) = false := bne_eq_false_iff_eq.mpr c28
                    clear c28
                    by_cases c29 : 0 ≤ (a0.size : Int)
                    · rw [if_pos c29] at H
                      have c29b0 := eq_true c29
                      have c29b1 : decide (0 ≤ (a0.size : Int)) = true := decide_eq_true c29
                      clear c29
                      by_cases c30 : (a0.size : Int) ≤ (t152.size : Int)
                      · rw [if_pos c30] at H
                        have c30b0 := eq_true c30
                        have c30b1 : decide ((a0.size : Int) ≤ (t152.size : Int)) = true := decide_eq_true c30
                        clear c30
                        obtain rfl := Option.some.inj H
                        have hcz31_0 : wc.cell? ⟨gb150, 0, none⟩ = some (.int .i64 a1_0) := (blk_cell BK150.out 0).trans rfl
                        have hcz31_1 : wc.cell? ⟨gb150, 1, none⟩ = some (.string a1_1) := (blk_cell BK150.out 1).trans rfl
                        have hfz31_0 := blk_frozen BK150.out 0
                        have hfz31_1 := blk_frozen BK150.out 1
                        go_wp2
                        repeat (go_quiet (fail); try go_wp2)
                        go_ret
                        exact ⟨by first | rfl | (simp [errW_none, errW_some] <;> rfl) | (simp only [← hji12]; first | rfl | (simp [errW_none, errW_some] <;> rfl)) | (simp [*, errW_none, errW_some] <;> rfl), by repeat (first | (with_reducible first | exact HB.out | apply below_alloc | apply pw_below_drewN | apply below_drew1 | refine below_set ?_ GE150.out) | exact HB.out)⟩
                      · rw [if_neg c30] at H
                        exact absurd H (by simp)
                    · rw [if_neg c29] at H
                      exact absurd H (by simp)
                  · rw [if_neg c28] at H
                    have c28b0 : ((t152.size : Int) == (wrap64 ((wrap64 ((a0.size : Int) + (a1_1.size : Int))) + 3))) = false := beq_eq_false_iff_ne.mpr c28
                    have c28b1 : ((t152.size : Int) != (wrap64 ((wrap64 ((a0.size : Int) + (a1_1.size : Int))) + 3))) = true := bne_iff_ne.mpr c28
                    obtain rfl := Option.some.inj H
                    have hcz32_0 : wc.cell? ⟨gb150, 0, none⟩ = some (.int .i64 a1_0) := (blk_cell BK150.out 0).trans rfl
                    have hcz32_1 : wc.cell? ⟨gb150, 1, none⟩ = some (.string a1_1) := (blk_cell BK150.out 1).trans rfl
                    have hfz32_0 := blk_frozen BK150.out 0
                    have hfz32_1 := blk_frozen BK150.out 1
                    go_wp2
                    repeat (go_quiet (fail); try go_wp2)
                    go_ret
                    exact ⟨by first | rfl | (simp [errW_none, errW_some] <;> rfl) | (simp only [← hji12]; first | rfl | (simp [errW_none, errW_some] <;> rfl)) | (simp [*, errW_none, errW_some] <;> rfl), by repeat (first | (with_reducible first | exact HB.out | apply below_alloc | apply pw_below_drewN | apply below_drew1 | refine below_set ?_ GE150.out) | exact HB.out)⟩
                · rw [if_neg c27] at H
                  have c27b0 : decide ((wrap64 ((wrap64 ((a0.size : Int) + (a1_1.size : Int))) + 3)) ≤ 4096) = false := decide_eq_false c27
                  clear c27
                  obtain rfl := Option.some.inj H
                  have hcz33_0 : wc.cell? ⟨gb150, 0, none⟩ = some (.int .i64 a1_0) := (blk_cell BK150.out 0).trans rfl
                  have hcz33_1 : wc.cell? ⟨gb150, 1, none⟩ = some (.string a1_1) := (blk_cell BK150.out 1).trans rfl
                  have hfz33_0 := blk_frozen BK150.out 0
                  have hfz33_1 := blk_frozen BK150.out 1
                  go_wp2
                  repeat (go_quiet (fail); try go_wp2)
                  go_ret
                  exact ⟨by first | rfl | (simp [errW_none, errW_some] <;> rfl) | (simp only [← hji12]; first | rfl | (simp [errW_none, errW_some] <;> rfl)) | (simp [*, errW_none, errW_some] <;> rfl), by repeat (first | (with_reducible first | exact HB.out | apply below_alloc | apply pw_below_drewN | apply below_drew1 | refine below_set ?_ GE150.out) | exact HB.out)⟩
  · replace c4 := Bool.eq_false_iff.mpr c4
    subst c4
    have H1 : (some false) = some r := by rw [if_neg (show ¬ (false = true) by decide)] at H; exact H
    clear H
    have H := H1
    clear H1
    obtain rfl := Option.some.inj H
    go_enter Try.func4, Try.ntmps4
    go_wp2_with (first | ((with_reducible refine gate_dst (N := 3) rfl ?_); (try (refine gate_guard (by rfl) ?_; dsimp only)); refine box_event ?hg (N := 3) ?hd (cs := #[.int .i64 a1_0, .string a1_1]) (t := 27) ?hr ?_; (case hd => rfl); (case hg => rfl); (case hr => first | (go_simp; done) | (go_simp; rfl)); intro gb150 hg w34 hbox hb; have n0_ := Aside0.mk (below_step (by repeat (first | (with_reducible first | exact HB.out | apply below_alloc | apply pw_below_drewN | apply below_drew1) | exact HB.out)) hb); have n1_ := Aside0.mk (hbox); have n2_ := Aside0.mk ((by rw [hg]; exact (below_size (by repeat (first | (with_reducible first | exact HB.out | apply below_alloc | apply pw_below_drewN | apply below_drew1) | exact HB.out))) : w.heap.size ≤ gb150)); have n3_ := Aside0.mk ((by rw [hg]; exact (below_size (by repeat (first | (with_reducible first | exact HB.out | apply below_alloc | apply pw_below_drewN | apply below_drew1) | exact HB.out))) : w.heap.size ≤ gb150)); clear HB; have HB := n0_; have BK150 := n1_; have GW150 := n2_; have GE150 := n3_; clear n0_ n1_ n2_ n3_; clear hb hbox hg) | (go_at_call 6; (with_reducible refine (consortlaw22_awake.calls k  false _ A3.out).mono ?_); rintro e w35 ⟨rfl, hb⟩; have n0_ := Aside0.mk (blk_below (g := gb150) (o := .cells #[.int .i64 a1_0, .string a1_1] 27 (0, 0)) (by (with_reducible repeat (first | refine blk_drewN ?_ _ | refine blk_drew ?_ | refine blk_alloc ?_ _)); exact BK150.out) hb); have n1_ := Aside0.mk (below_step (by repeat (first | (with_reducible first | exact HB.out | apply below_alloc | apply pw_below_drewN | apply below_drew1 | refine below_set ?_ GE150.out) | exact HB.out)) hb); clear BK150; clear HB; have BK150 := n0_; have HB := n1_; clear n0_ n1_; (try clear hb); (try clear hb2); (try clear hk); (try clear hi)))
    repeat (go_quiet (first | ((with_reducible refine gate_dst (N := 3) rfl ?_); (try (refine gate_guard (by rfl) ?_; dsimp only)); refine box_event ?hg (N := 3) ?hd (cs := #[.int .i64 a1_0, .string a1_1]) (t := 27) ?hr ?_; (case hd => rfl); (case hg => rfl); (case hr => first | (go_simp; done) | (go_simp; rfl)); intro gb150 hg w34 hbox hb; have n0_ := Aside0.mk (below_step (by repeat (first | (with_reducible first | exact HB.out | apply below_alloc | apply pw_below_drewN | apply below_drew1) | exact HB.out)) hb); have n1_ := Aside0.mk (hbox); have n2_ := Aside0.mk ((by rw [hg]; exact (below_size (by repeat (first | (with_reducible first | exact HB.out | apply below_alloc | apply pw_below_drewN | apply below_drew1) | exact HB.out))) : w.heap.size ≤ gb150)); have n3_ := Aside0.mk ((by rw [hg]; exact (below_size (by repeat (first | (with_reducible first | exact HB.out | apply below_alloc | apply pw_below_drewN | apply below_drew1) | exact HB.out))) : w.heap.size ≤ gb150)); clear HB; have HB := n0_; have BK150 := n1_; have GW150 := n2_; have GE150 := n3_; clear n0_ n1_ n2_ n3_; clear hb hbox hg) | (go_at_call 6; (with_reducible refine (consortlaw22_awake.calls k  false _ A3.out).mono ?_); rintro e w35 ⟨rfl, hb⟩; have n0_ := Aside0.mk (blk_below (g := gb150) (o := .cells #[.int .i64 a1_0, .string a1_1] 27 (0, 0)) (by (with_reducible repeat (first | refine blk_drewN ?_ _ | refine blk_drew ?_ | refine blk_alloc ?_ _)); exact BK150.out) hb); have n1_ := Aside0.mk (below_step (by repeat (first | (with_reducible first | exact HB.out | apply below_alloc | apply pw_below_drewN | apply below_drew1 | refine below_set ?_ GE150.out) | exact HB.out)) hb); clear BK150; clear HB; have BK150 := n0_; have HB := n1_; clear n0_ n1_; (try clear hb); (try clear hb2); (try clear hk); (try clear hi))); try go_wp2_with (first | ((with_reducible refine gate_dst (N := 3) rfl ?_); (try (refine gate_guard (by rfl) ?_; dsimp only)); refine box_event ?hg (N := 3) ?hd (cs := #[.int .i64 a1_0, .string a1_1]) (t := 27) ?hr ?_; (case hd => rfl); (case hg => rfl); (case hr => first | (go_simp; done) | (go_simp; rfl)); intro gb150 hg w34 hbox hb; have n0_ := Aside0.mk (below_step (by repeat (first | (with_reducible first | exact HB.out | apply below_alloc | apply pw_below_drewN | apply below_drew1) | exact HB.out)) hb); have n1_ := Aside0.mk (hbox); have n2_ := Aside0.mk ((by rw [hg]; exact (below_size (by repeat (first | (with_reducible first | exact HB.out | apply below_alloc | apply pw_below_drewN | apply below_drew1) | exact HB.out))) : w.heap.size ≤ gb150)); have n3_ := Aside0.mk ((by rw [hg]; exact (below_size (by repeat (first | (with_reducible first | exact HB.out | apply below_alloc | apply pw_below_drewN | apply below_drew1) | exact HB.out))) : w.heap.size ≤ gb150)); clear HB; have HB := n0_; have BK150 := n1_; have GW150 := n2_; have GE150 := n3_; clear n0_ n1_ n2_ n3_; clear hb hbox hg) | (go_at_call 6; (with_reducible refine (consortlaw22_awake.calls k  false _ A3.out).mono ?_); rintro e w35 ⟨rfl, hb⟩; have n0_ := Aside0.mk (blk_below (g := gb150) (o := .cells #[.int .i64 a1_0, .string a1_1] 27 (0, 0)) (by (with_reducible repeat (first | refine blk_drewN ?_ _ | refine blk_drew ?_ | refine blk_alloc ?_ _)); exact BK150.out) hb); have n1_ := Aside0.mk (below_step (by repeat (first | (with_reducible first | exact HB.out | apply below_alloc | apply pw_below_drewN | apply below_drew1 | refine below_set ?_ GE150.out) | exact HB.out)) hb); clear BK150; clear HB; have BK150 := n0_; have HB := n1_; clear n0_ n1_; (try clear hb); (try clear hb2); (try clear hk); (try clear hi))))
    go_ret
    exact ⟨by first | rfl | (simp [errW_none, errW_some] <;> rfl) | (simp [*, errW_none, errW_some] <;> rfl), by repeat (first | (with_reducible first | exact HB.out | apply below_alloc | apply pw_below_drewN | apply below_drew1 | refine below_set ?_ GE150.out) | exact HB.out)⟩

/-! ### consortlaw22_FoldTail: function 5 -/
def consortlaw22_FoldTail.j0 : Nat → ByteArray → ByteArray → List (S27) → Bool → Option (Bool)
  | 0, _, _, _, _ => none
  | k + 1, x0, x1, x2, x28 => if x28 = true then (some true) else (if x0.size + x1.size ≤ 9223372036854775807 then ((fold_All.f k (x0 ++ x1) x2).bind fun t155 => ((fold_All.f k x1 x2).bind fun t156 => (if (x1.size : Int) ≥ 4096 then (some (t155.toList == t156.toList)) else (if (t155.size : Int) ≥ (t156.size : Int) then (if 0 ≤ (wrap64 ((t155.size : Int) - (t156.size : Int))) then (if (wrap64 ((t155.size : Int) - (t156.size : Int))) ≤ (t155.size : Int) then (some ((t155.extract ((wrap64 ((t155.size : Int) - (t156.size : Int))) : Int).toNat t155.size).toList == t156.toList)) else (none)) else (none)) else (some false))))) else (none))
def consortlaw22_FoldTail.f (k : Nat) (a0 : ByteArray) (a1 : ByteArray) (l2 : List (S27)) : Option (Bool) := (consortlaw22_awake.f k).bind fun t153 => (if t153 = true then (if (a0.size : Int) > 10000 then (consortlaw22_FoldTail.j0 k a0 a1 l2 true) else (if (a1.size : Int) > 10000 then (consortlaw22_FoldTail.j0 k a0 a1 l2 true) else ((consortlaw22_few.f k l2).bind fun t154 => (if t154 = true then (consortlaw22_FoldTail.j0 k a0 a1 l2 ((l2.length : Int) == 0)) else (consortlaw22_FoldTail.j0 k a0 a1 l2 true))))) else (some false))
theorem consortlaw22_FoldTail.mono_l : ∀ k, (∀ y0 y1 y2 y3, LeO (consortlaw22_FoldTail.j0 k y0 y1 y2 y3) (consortlaw22_FoldTail.j0 (k + 1) y0 y1 y2 y3))
  | 0 => fun _ _ _ _ r h => by simp [consortlaw22_FoldTail.j0] at h
  | k + 1 => by
    have ih0 := consortlaw22_FoldTail.mono_l k
    · intro y0 y1 y2 y3
      unfold consortlaw22_FoldTail.j0
      repeat' first
      | (with_reducible exact ih0 _ _ _ _)
      | (with_reducible exact consortlaw22_awake.mono _)
      | (with_reducible exact consortlaw22_few.mono _ _)
      | (with_reducible exact fold_All.mono _ _ _)
      | (with_reducible exact LeO.refl _)
      | (with_reducible exact LeO.none _)
      | (with_reducible refine LeO.ite ?_ ?_)
      | (with_reducible refine LeO.bind ?_ (fun _ => ?_))
      | exact ih0 _ _ _ _
      | exact consortlaw22_awake.mono _
      | exact consortlaw22_few.mono _ _
      | exact fold_All.mono _ _ _
      | exact LeO.none _
      | refine LeO.ite ?_ ?_
      | refine LeO.bind ?_ (fun _ => ?_)
theorem consortlaw22_FoldTail.mono : ∀ a0 a1 a2 k, LeO (consortlaw22_FoldTail.f k a0 a1 a2) (consortlaw22_FoldTail.f (k + 1) a0 a1 a2) := by
  intro a0 a1 a2 k
  have ih0 := consortlaw22_FoldTail.mono_l k
  unfold consortlaw22_FoldTail.f
  repeat' first
      | (with_reducible exact ih0 _ _ _ _)
      | (with_reducible exact consortlaw22_awake.mono _)
      | (with_reducible exact consortlaw22_few.mono _ _)
      | (with_reducible exact fold_All.mono _ _ _)
      | (with_reducible exact LeO.refl _)
      | (with_reducible exact LeO.none _)
      | (with_reducible refine LeO.ite ?_ ?_)
      | (with_reducible refine LeO.bind ?_ (fun _ => ?_))
      | exact ih0 _ _ _ _
      | exact consortlaw22_awake.mono _
      | exact consortlaw22_few.mono _ _
      | exact fold_All.mono _ _ _
      | exact LeO.none _
      | refine LeO.ite ?_ ?_
      | refine LeO.bind ?_ (fun _ => ?_)
set_option maxHeartbeats 8000000 in
set_option maxRecDepth 100000 in
theorem consortlaw22_FoldTail.calls (k : Nat) (a0 : ByteArray) (a1 : ByteArray) (A2 : Option Addr) (c2 : Nat) (l2 : List (S27)) (r : Bool) (w : World) (hr2 : Kd.C k27 w A2 l2.length l2) (hc2 : l2.length ≤ c2) (h : consortlaw22_FoldTail.f k a0 a1 l2 = some r) :
    Calls Try.prog 5 #[.string a0, .string a1, .slice A2 l2.length c2] w fun e w' => e = .returned (.bool r) ∧ Below w.heap.size w w' := by
  have HR2 := Aside0.mk hr2
  have HC2 := Aside0.mk hc2
  clear hr2 hc2
  have HB := Aside0.mk (Below.refl w.heap.size w)
  have H : ((consortlaw22_awake.f k).bind fun t153 => (if t153 = true then (if (a0.size : Int) > 10000 then (consortlaw22_FoldTail.j0 k a0 a1 l2 true) else (if (a1.size : Int) > 10000 then (consortlaw22_FoldTail.j0 k a0 a1 l2 true) else ((consortlaw22_few.f k l2).bind fun t154 => (if t154 = true then (consortlaw22_FoldTail.j0 k a0 a1 l2 ((l2.length : Int) == 0)) else (consortlaw22_FoldTail.j0 k a0 a1 l2 true))))) else (some false))) = some r := h
  clear h
  replace H := Option.bind_eq_some_iff.mp H
  obtain ⟨t153, A40, H⟩ := H
  replace H : (if t153 = true then (if (a0.size : Int) > 10000 then (consortlaw22_FoldTail.j0 k a0 a1 l2 true) else (if (a1.size : Int) > 10000 then (consortlaw22_FoldTail.j0 k a0 a1 l2 true) else ((consortlaw22_few.f k l2).bind fun t154 => (if t154 = true then (consortlaw22_FoldTail.j0 k a0 a1 l2 ((l2.length : Int) == 0)) else (consortlaw22_FoldTail.j0 k a0 a1 l2 true))))) else (some false)) = some r := H
  have A4 := Aside0.mk A40
  clear A40
  by_cases c5 : t153 = true
  · subst c5
    have H1 : (if (a0.size : Int) > 10000 then (consortlaw22_FoldTail.j0 k a0 a1 l2 true) else (if (a1.size : Int) > 10000 then (consortlaw22_FoldTail.j0 k a0 a1 l2 true) else ((consortlaw22_few.f k l2).bind fun t154 => (if t154 = true then (consortlaw22_FoldTail.j0 k a0 a1 l2 ((l2.length : Int) == 0)) else (consortlaw22_FoldTail.j0 k a0 a1 l2 true))))) = some r := by rw [if_pos rfl] at H; exact H
    clear H
    have H := H1
    clear H1
    have HC6 := Aside0.mk H
    clear H
    go_enter Try.func5, Try.ntmps5
    go_upto_region 3 with (first | ((with_reducible refine gate_callee (f := 6) rfl ?_); refine goesL_ (some 9) rfl rfl Try.func6 (by kernel_rfl) rfl #[] rfl (by (try simp only [List.map_toArray, List.map_cons, List.map_nil]); first | done | rfl | (simp only [List.length_drop, List.length_take]; rfl)) ?_; (with_reducible refine (consortlaw22_awake.calls k  true _ A4.out).mono ?_); rintro e w7 ⟨rfl, hb⟩; refine ⟨_, rfl, ?_⟩; have n0_ := Aside0.mk (below_step (by repeat (first | (with_reducible first | exact HB.out | apply below_alloc | apply pw_below_drewN | apply below_drew1) | exact HB.out)) hb); clear HB; have HB := n0_; clear n0_; (try clear hb); (try clear hb2); (try clear hk); (try clear hi)))
    (try simp only [Act.put, List.setIfInBounds_toArray, List.set_cons_zero, List.set_cons_succ])
    go_cut [28] (fun v28 wc => ∃ (kq : Nat) (x28_5 : Bool), v28 = .bool x28_5 ∧ Aside0 (consortlaw22_FoldTail.j0 kq a0 a1 l2 x28_5 = some r) ∧ Aside0 (kq ≤ k) ∧ Aside0 (Below w.heap.size w wc))
    case first =>
      have H := HC6.out
      clear HC6
      by_cases c8 : (a0.size : Int) > 10000
      · rw [if_pos c8] at H
        have c8b0 : decide (10000 < (a0.size : Int)) = true := decide_eq_true c8
        have c8b1 : decide (10000 < a0.size) = true := decide_eq_true (by omega)
        clear c8
        (first | rw [c8b0] | (simp only [i64_w, i32_w]; rw [c8b0]) | skip)
        have H' := Aside0.mk H
        clear H
        go_wp2
        go_meet
        case rel => exact ⟨_, (true), (by first | rfl | (simp; done) | (simp [*]; done)), H', ⟨by first | omega | exact Nat.le_refl _⟩, ⟨by repeat (first | (with_reducible first | exact HB.out | apply below_alloc | apply pw_below_drewN | apply below_drew1) | exact HB.out)⟩⟩
      · rw [if_neg c8] at H
        have c8b0 : decide (10000 < (a0.size : Int)) = false := decide_eq_false c8
        have c8b1 : decide (10000 < a0.size) = false := decide_eq_false (by omega)
        clear c8
        (first | rw [c8b0] | (simp only [i64_w, i32_w]; rw [c8b0]) | skip)
        by_cases c9 : (a1.size : Int) > 10000
        · rw [if_pos c9] at H
          have c9b0 : decide (10000 < (a1.size : Int)) = true := decide_eq_true c9
          have c9b1 : decide (10000 < a1.size) = true := decide_eq_true (by omega)
          clear c9
          have H' := Aside0.mk H
          clear H
          go_wp2
          go_meet
          case rel => exact ⟨_, (true), (by first | rfl | (simp; done) | (simp [*]; done)), H', ⟨by first | omega | exact Nat.le_refl _⟩, ⟨by repeat (first | (with_reducible first | exact HB.out | apply below_alloc | apply pw_below_drewN | apply below_drew1) | exact HB.out)⟩⟩
        · rw [if_neg c9] at H
          have c9b0 : decide (10000 < (a1.size : Int)) = false := decide_eq_false c9
          have c9b1 : decide (10000 < a1.size) = false := decide_eq_false (by omega)
          clear c9
          replace H := Option.bind_eq_some_iff.mp H
          obtain ⟨t154, A100, H⟩ := H
          replace H : (if t154 = true then (consortlaw22_FoldTail.j0 k a0 a1 l2 ((l2.length : Int) == 0)) else (consortlaw22_FoldTail.j0 k a0 a1 l2 true)) = some r := H
          have A10 := Aside0.mk A100
          clear A100
          by_cases c11 : t154 = true
          · subst c11
            have H1 : (consortlaw22_FoldTail.j0 k a0 a1 l2 ((l2.length : Int) == 0)) = some r := by rw [if_pos rfl] at H; exact H
            clear H
            have H := H1
            clear H1
            have H' := Aside0.mk H
            clear H
            go_wp2_with (first | (go_at_call 7; (with_reducible refine (consortlaw22_few.calls k _ _ l2 true _ ?side1 ?side2 A10.out).mono ?_); (case side1 => repeat (first | exact (Kd.C_below HR2.out HB.out) | (with_reducible refine Kd.C_alloc ?_ _) | (with_reducible refine Kd.C_drewN ?_ _) | (with_reducible refine Kd.C_drew ?_))); (case side2 => exact HC2.out); rintro e w12 ⟨rfl, hb⟩; have n0_ := Aside0.mk (below_step (by repeat (first | (with_reducible first | exact HB.out | apply below_alloc | apply pw_below_drewN | apply below_drew1) | exact HB.out)) hb); clear HB; have HB := n0_; clear n0_; (try clear hb); (try clear hb2); (try clear hk); (try clear hi)))
            go_meet
            case rel => exact ⟨_, (((l2.length : Int) == 0)), (by first | rfl | (simp; done) | (simp [*]; done)), H', ⟨by first | omega | exact Nat.le_refl _⟩, ⟨by repeat (first | (with_reducible first | exact HB.out | apply below_alloc | apply pw_below_drewN | apply below_drew1) | exact HB.out)⟩⟩
          · replace c11 := Bool.eq_false_iff.mpr c11
            subst c11
            have H1 : (consortlaw22_FoldTail.j0 k a0 a1 l2 true) = some r := by rw [if_neg (show ¬ (false = true) by decide)] at H; exact H
            clear H
            have H := H1
            clear H1
            have H' := Aside0.mk H
            clear H
            go_wp2_with (first | (go_at_call 7; (with_reducible refine (consortlaw22_few.calls k _ _ l2 false _ ?side1 ?side2 A10.out).mono ?_); (case side1 => repeat (first | exact (Kd.C_below HR2.out HB.out) | (with_reducible refine Kd.C_alloc ?_ _) | (with_reducible refine Kd.C_drewN ?_ _) | (with_reducible refine Kd.C_drew ?_))); (case side2 => exact HC2.out); rintro e w13 ⟨rfl, hb⟩; have n0_ := Aside0.mk (below_step (by repeat (first | (with_reducible first | exact HB.out | apply below_alloc | apply pw_below_drewN | apply below_drew1) | exact HB.out)) hb); clear HB; have HB := n0_; clear n0_; (try clear hb); (try clear hb2); (try clear hk); (try clear hi)))
            go_meet
            case rel => exact ⟨_, (true), (by first | rfl | (simp; done) | (simp [*]; done)), H', ⟨by first | omega | exact Nat.le_refl _⟩, ⟨by repeat (first | (with_reducible first | exact HB.out | apply below_alloc | apply pw_below_drewN | apply below_drew1) | exact HB.out)⟩⟩
    case rest =>
      clear HC6
      try clear c1
      try clear c2
      try clear p2
      try clear c5
      try clear c6
      try clear c8
      try clear c8b0
      try clear c8b1
      try clear c9
      try clear c9b0
      try clear c9b1
      try clear c11
      obtain ⟨kq, x28_5, rfl, HA, HJ5, HB⟩ := hcut
      cases kq with
      | zero => exact absurd HA.out (by simp [consortlaw22_FoldTail.j0])
      | succ kj5 =>
        have H := HA.out
        clear HA
        simp only [consortlaw22_FoldTail.j0] at H
        by_cases c14 : x28_5 = true
        · subst c14
          have H1 : (some true) = some r := by rw [if_pos rfl] at H; exact H
          clear H
          have H := H1
          clear H1
          obtain rfl := Option.some.inj H
          go_wp2
          go_ret
          exact ⟨by first | rfl | (simp [errW_none, errW_some] <;> rfl) | (simp [*, errW_none, errW_some] <;> rfl), by repeat (first | (with_reducible first | exact HB.out | apply below_alloc | apply pw_below_drewN | apply below_drew1) | exact HB.out)⟩
        · replace c14 := Bool.eq_false_iff.mpr c14
          subst c14
          have H1 : (if a0.size + a1.size ≤ 9223372036854775807 then ((fold_All.f kj5 (a0 ++ a1) l2).bind fun t155 => ((fold_All.f kj5 a1 l2).bind fun t156 => (if (a1.size : Int) ≥ 4096 then (some (t155.toList == t156.toList)) else (if (t155.size : Int) ≥ (t156.size : Int) then (if 0 ≤ (wrap64 ((t155.size : Int) - (t156.size : Int))) then (if (wrap64 ((t155.size : Int) - (t156.size : Int))) ≤ (t155.size : Int) then (some ((t155.extract ((wrap64 ((t155.size : Int) - (t156.size : Int))) : Int).toNat t155.size).toList == t156.toList)) else (none)) else (none)) else (some false))))) else (none)) = some r := by rw [if_neg (show ¬ (false = true) by decide)] at H; exact H
          clear H
          have H := H1
          clear H1
          by_cases c15 : a0.size + a1.size ≤ 9223372036854775807
          · rw [if_pos c15] at H
            have c15b0 := eq_true c15
            have c15b1 : decide (a0.size + a1.size ≤ 9223372036854775807) = true := decide_eq_true c15
            try have c15b2 : (9223372036854775807 < a0.size + a1.size) = False := eq_false (Nat.not_lt.2 c15)
            replace H := Option.bind_eq_some_iff.mp H
            obtain ⟨t155, A160, H⟩ := H
            replace H : ((fold_All.f kj5 a1 l2).bind fun t156 => (if (a1.size : Int) ≥ 4096 then (some (t155.toList == t156.toList)) else (if (t155.size : Int) ≥ (t156.size : Int) then (if 0 ≤ (wrap64 ((t155.size : Int) - (t156.size : Int))) then (if (wrap64 ((t155.size : Int) - (t156.size : Int))) ≤ (t155.size : Int) then (some ((t155.extract ((wrap64 ((t155.size : Int) - (t156.size : Int))) : Int).toNat t155.size).toList == t156.toList)) else (none)) else (none)) else (some false)))) = some r := H
            have A16 := Aside0.mk A160
            clear A160
            replace H := Option.bind_eq_some_iff.mp H
            obtain ⟨t156, A170, H⟩ := H
            replace H : (if (a1.size : Int) ≥ 4096 then (some (t155.toList == t156.toList)) else (if (t155.size : Int) ≥ (t156.size : Int) then (if 0 ≤ (wrap64 ((t155.size : Int) - (t156.size : Int))) then (if (wrap64 ((t155.size : Int) - (t156.size : Int))) ≤ (t155.size : Int) then (some ((t155.extract ((wrap64 ((t155.size : Int) - (t156.size : Int))) : Int).toNat t155.size).toList == t156.toList)) else (none)) else (none)) else (some false))) = some r := H
            have A17 := Aside0.mk A170
            clear A170
            by_cases c18 : (a1.size : Int) ≥ 4096
            · rw [if_pos c18] at H
              have c18b0 : decide (4096 ≤ (a1.size : Int)) = true := decide_eq_true c18
              have c18b1 : decide (4096 ≤ a1.size) = true := decide_eq_true (by omega)
              clear c18
              obtain rfl := Option.some.inj H
              go_wp2_with (first | ((with_reducible refine gate_callee (f := 10) rfl ?_); refine goesL_ (some 33) rfl rfl Try.func10 (by kernel_rfl) rfl #[.string (a0 ++ a1), .slice A2 l2.length c2] rfl (by (try simp only [List.map_toArray, List.map_cons, List.map_nil]); first | done | rfl | (simp only [List.length_drop, List.length_take]; rfl)) ?_; (with_reducible refine (fold_All.calls kj5 (a0 ++ a1) _ _ l2 t155 _ ?side1 ?side2 A16.out).mono ?_); (case side1 => repeat (first | exact (Kd.C_below HR2.out HB.out) | (with_reducible refine Kd.C_alloc ?_ _) | (with_reducible refine Kd.C_drewN ?_ _) | (with_reducible refine Kd.C_drew ?_))); (case side2 => exact HC2.out); rintro e w19 ⟨rfl, hb⟩; refine ⟨_, rfl, ?_⟩; have n0_ := Aside0.mk (below_step (by repeat (first | (with_reducible first | exact HB.out | apply below_alloc | apply pw_below_drewN | apply below_drew1) | exact HB.out)) hb); clear HB; have HB := n0_; clear n0_; (try clear hb); (try clear hb2); (try clear hk); (try clear hi)) | ((with_reducible refine gate_callee (f := 10) rfl ?_); refine goesL_ (some 36) rfl rfl Try.func10 (by kernel_rfl) rfl #[.string a1, .slice A2 l2.length c2] rfl (by (try simp only [List.map_toArray, List.map_cons, List.map_nil]); first | done | rfl | (simp only [List.length_drop, List.length_take]; rfl)) ?_; (with_reducible refine (fold_All.calls kj5 a1 _ _ l2 t156 _ ?side1 ?side2 A17.out).mono ?_); (case side1 => repeat (first | exact (Kd.C_below HR2.out HB.out) | (with_reducible refine Kd.C_alloc ?_ _) | (with_reducible refine Kd.C_drewN ?_ _) | (with_reducible refine Kd.C_drew ?_))); (case side2 => exact HC2.out); rintro e w20 ⟨rfl, hb⟩; refine ⟨_, rfl, ?_⟩; have n0_ := Aside0.mk (below_step (by repeat (first | (with_reducible first | exact HB.out | apply below_alloc | apply pw_below_drewN | apply below_drew1) | exact HB.out)) hb); clear HB; have HB := n0_; clear n0_; (try clear hb); (try clear hb2); (try clear hk); (try clear hi)))
              go_ret
              exact ⟨by first | rfl | (simp [errW_none, errW_some] <;> rfl) | (simp [*, errW_none, errW_some] <;> rfl), by repeat (first | (with_reducible first | exact HB.out | apply below_alloc | apply pw_below_drewN | apply below_drew1) | exact HB.out)⟩
            · rw [if_neg c18] at H
              have c18b0 : decide (4096 ≤ (a1.size : Int)) = false := decide_eq_false c18
              have c18b1 : decide (4096 ≤ a1.size) = false := decide_eq_false (by omega)
              clear c18
              by_cases c21 : (t155.size : Int) ≥ (t156.size : Int)
              · rw [if_pos c21] at H
                have c21b0 : decide ((t156.size : Int) ≤ (t155.size : Int)) = true := decide_eq_true c21
                have c21b1 : decide (t156.size ≤ t155.size) = true := decide_eq_true (Int.ofNat_le.mp c21)
                clear c21
                obtain ⟨ji22, hji22⟩ : ∃ j_ : Int, (wrap64 ((t155.size : Int) - (t156.size : Int))) = j_ := ⟨_, rfl⟩
                replace H : (if 0 ≤ (ji22) then (if (ji22) ≤ (t155.size : Int) then (some ((t155.extract ((ji22) : Int).toNat t155.size).toList == t156.toList)) else (none)) else (none)) = some r := by first | (rw [hji22] at H; exact H) | (simp only [hji22] at H ⊢; exact H)
                (try rw [hji22] at A16)
                (try rw [hji22] at A17)
                have hji22w : (IntKind.i64.wrap ((t155.size : Int) - (t156.size : Int))) = ji22 := (i64_w _).trans hji22
                by_cases c23 : 0 ≤ (ji22)
                · rw [if_pos c23] at H
                  have c23b0 := eq_true c23
                  have c23b1 : decide (0 ≤ (ji22)) = true := decide_eq_true c23
                  clear c23
                  by_cases c24 : (ji22) ≤ (t155.size : Int)
                  · rw [if_pos c24] at H
                    have c24b0 := eq_true c24
                    have c24b1 : decide ((ji22) ≤ (t155.size : Int)) = true := decide_eq_true c24
                    clear c24
                    obtain rfl := Option.some.inj H
                    go_wp2_with (first | ((with_reducible refine gate_callee (f := 10) rfl ?_); refine goesL_ (some 33) rfl rfl Try.func10 (by kernel_rfl) rfl #[.string (a0 ++ a1), .slice A2 l2.length c2] rfl (by (try simp only [List.map_toArray, List.map_cons, List.map_nil]); first | done | rfl | (simp only [List.length_drop, List.length_take]; rfl)) ?_; (with_reducible refine (fold_All.calls kj5 (a0 ++ a1) _ _ l2 t155 _ ?side1 ?side2 A16.out).mono ?_); (case side1 => repeat (first | exact (Kd.C_below HR2.out HB.out) | (with_reducible refine Kd.C_alloc ?_ _) | (with_reducible refine Kd.C_drewN ?_ _) | (with_reducible refine Kd.C_drew ?_))); (case side2 => exact HC2.out); rintro e w25 ⟨rfl, hb⟩; refine ⟨_, rfl, ?_⟩; have n0_ := Aside0.mk (below_step (by repeat (first | (with_reducible first | exact HB.out | apply below_alloc | apply pw_below_drewN | apply below_drew1) | exact HB.out)) hb); clear HB; have HB := n0_; clear n0_; (try clear hb); (try clear hb2); (try clear hk); (try clear hi)) | ((with_reducible refine gate_callee (f := 10) rfl ?_); refine goesL_ (some 36) rfl rfl Try.func10 (by kernel_rfl) rfl #[.string a1, .slice A2 l2.length c2] rfl (by (try simp only [List.map_toArray, List.map_cons, List.map_nil]); first | done | rfl | (simp only [List.length_drop, List.length_take]; rfl)) ?_; (with_reducible refine (fold_All.calls kj5 a1 _ _ l2 t156 _ ?side1 ?side2 A17.out).mono ?_); (case side1 => repeat (first | exact (Kd.C_below HR2.out HB.out) | (with_reducible refine Kd.C_alloc ?_ _) | (with_reducible refine Kd.C_drewN ?_ _) | (with_reducible refine Kd.C_drew ?_))); (case side2 => exact HC2.out); rintro e w26 ⟨rfl, hb⟩; refine ⟨_, rfl, ?_⟩; have n0_ := Aside0.mk (below_step (by repeat (first | (with_reducible first | exact HB.out | apply below_alloc | apply pw_below_drewN | apply below_drew1) | exact HB.out)) hb); clear HB; have HB := n0_; clear n0_; (try clear hb); (try clear hb2); (try clear hk); (try clear hi)))
                    go_ret
                    exact ⟨by first | rfl | (simp [errW_none, errW_some] <;> rfl) | (simp only [← hji22]; first | rfl | (simp [errW_none, errW_some] <;> rfl)) | (simp [*, errW_none, errW_some] <;> rfl), by repeat (first | (with_reducible first | exact HB.out | apply below_alloc | apply pw_below_drewN | apply below_drew1) | exact HB.out)⟩
                  · rw [if_neg c24] at H
                    exact absurd H (by simp)
                · rw [if_neg c23] at H
                  exact absurd H (by simp)
              · rw [if_neg c21] at H
                have c21b0 : decide ((t156.size : Int) ≤ (t155.size : Int)) = false := decide_eq_false c21
                have c21b1 : decide (t156.size ≤ t155.size) = false := decide_eq_false (fun h => c21 (Int.ofNat_le.mpr h))
                clear c21
                obtain rfl := Option.some.inj H
                go_wp2_with (first | ((with_reducible refine gate_callee (f := 10) rfl ?_); refine goesL_ (some 33) rfl rfl Try.func10 (by kernel_rfl) rfl #[.string (a0 ++ a1), .slice A2 l2.length c2] rfl (by (try simp only [List.map_toArray, List.map_cons, List.map_nil]); first | done | rfl | (simp only [List.length_drop, List.length_take]; rfl)) ?_; (with_reducible refine (fold_All.calls kj5 (a0 ++ a1) _ _ l2 t155 _ ?side1 ?side2 A16.out).mono ?_); (case side1 => repeat (first | exact (Kd.C_below HR2.out HB.out) | (with_reducible refine Kd.C_alloc ?_ _) | (with_reducible refine Kd.C_drewN ?_ _) | (with_reducible refine Kd.C_drew ?_))); (case side2 => exact HC2.out); rintro e w27 ⟨rfl, hb⟩; refine ⟨_, rfl, ?_⟩; have n0_ := Aside0.mk (below_step (by repeat (first | (with_reducible first | exact HB.out | apply below_alloc | apply pw_below_drewN | apply below_drew1) | exact HB.out)) hb); clear HB; have HB := n0_; clear n0_; (try clear hb); (try clear hb2); (try clear hk); (try clear hi)) | ((with_reducible refine gate_callee (f := 10) rfl ?_); refine goesL_ (some 36) rfl rfl Try.func10 (by kernel_rfl) rfl #[.string a1, .slice A2 l2.length c2] rfl (by (try simp only [List.map_toArray, List.map_cons, List.map_nil]); first | done | rfl | (simp only [List.length_drop, List.length_take]; rfl)) ?_; (with_reducible refine (fold_All.calls kj5 a1 _ _ l2 t156 _ ?side1 ?side2 A17.out).mono ?_); (case side1 => repeat (first | exact (Kd.C_below HR2.out HB.out) | (with_reducible refine Kd.C_alloc ?_ _) | (with_reducible refine Kd.C_drewN ?_ _) | (with_reducible refine Kd.C_drew ?_))); (case side2 => exact HC2.out); rintro e w28 ⟨rfl, hb⟩; refine ⟨_, rfl, ?_⟩; have n0_ := Aside0.mk (below_step (by repeat (first | (with_reducible first | exact HB.out | apply below_alloc | apply pw_below_drewN | apply below_drew1) | exact HB.out)) hb); clear HB; have HB := n0_; clear n0_; (try clear hb); (try clear hb2); (try clear hk); (try clear hi)))
                go_ret
                exact ⟨by first | rfl | (simp [errW_none, errW_some] <;> rfl) | (simp [*, errW_none, errW_some] <;> rfl), by repeat (first | (with_reducible first | exact HB.out | apply below_alloc | apply pw_below_drewN | apply below_drew1) | exact HB.out)⟩
          · rw [if_neg c15] at H
            exact absurd H (by simp)
  · replace c5 := Bool.eq_false_iff.mpr c5
    subst c5
    have H1 : (some false) = some r := by rw [if_neg (show ¬ (false = true) by decide)] at H; exact H
    clear H
    have H := H1
    clear H1
    obtain rfl := Option.some.inj H
    go_enter Try.func5, Try.ntmps5
    go_wp2_with (first | ((with_reducible refine gate_callee (f := 6) rfl ?_); refine goesL_ (some 9) rfl rfl Try.func6 (by kernel_rfl) rfl #[] rfl (by (try simp only [List.map_toArray, List.map_cons, List.map_nil]); first | done | rfl | (simp only [List.length_drop, List.length_take]; rfl)) ?_; (with_reducible refine (consortlaw22_awake.calls k  false _ A4.out).mono ?_); rintro e w29 ⟨rfl, hb⟩; refine ⟨_, rfl, ?_⟩; have n0_ := Aside0.mk (below_step (by repeat (first | (with_reducible first | exact HB.out | apply below_alloc | apply pw_below_drewN | apply below_drew1) | exact HB.out)) hb); clear HB; have HB := n0_; clear n0_; (try clear hb); (try clear hb2); (try clear hk); (try clear hi)))
    go_ret
    exact ⟨by first | rfl | (simp [errW_none, errW_some] <;> rfl) | (simp [*, errW_none, errW_some] <;> rfl), by repeat (first | (with_reducible first | exact HB.out | apply below_alloc | apply pw_below_drewN | apply below_drew1) | exact HB.out)⟩

end Go.Proofs.Ytaejdmhgfkokdaa.P
