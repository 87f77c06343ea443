import Derived.Test.YtlkemknhmfjdpaaHandA4
/- ParseItem, by hand. -/
namespace Go.Proofs.Ytlkemknhmfjdpaa.P
open Go.RowKit Go.Proofs.YtlkemknhmfjdpaaW.PrintWords Go.Proofs.YtlkemknhmfjdpaaW.PrintLast Go.Proofs.YtlkemknhmfjdpaaW.PrintMore
attribute [local go_sem] max2_int min2_int max_two min_two max_three min_three max_four min_four
set_option linter.unusedVariables false
set_option linter.unusedSimpArgs false

set_option maxHeartbeats 8000000 in
set_option maxRecDepth 100000 in
theorem pi2_short3 (s : ByteArray) (w : World) (hs : s.size ≤ 1000000) (h1 : 13 ≤ s.size) (hk0 : IntKind.i64.wrap (numAt s 0 1) = 2) (h2 : s.size ≤ 13) :
    Calls Try.prog 12 #[.string s] w fun e w' => e = .returned (.tuple #[.agg #[.int .i64 0, .string ⟨#[]⟩, .int .u32 0, .int .u64 0, .bool false, .bool false, .int .u64 0, .int .u64 0, .int .i64 0, .int .u64 0, .slice none 0 0, .int .u64 0, .int .u64 0, .int .i64 0, .int .u64 0, .int .u64 0, .int .i64 0, .int .i64 0], .int .i64 2]) ∧ Below w.heap.size w w' := by
  obtain ⟨x0, hx0⟩ : ∃ x, x = numAt s 0 1 := ⟨_, rfl⟩
  have HX0 := Aside0.mk hx0
  have HS := Aside0.mk hs
  rw [← hx0] at hk0
  obtain ⟨x1, hx1⟩ : ∃ x, x = numAt s 1 4 := ⟨_, rfl⟩
  have HX1 := Aside0.mk hx1
  obtain ⟨y1, hy1⟩ : ∃ y, y = IntKind.u32.wrap x1 := ⟨_, rfl⟩
  have HY1 := Aside0.mk hy1
  have hyry1 : IntKind.u32.wrap x1 = y1 := hy1.symm
  obtain ⟨x2, hx2⟩ : ∃ x, x = numAt s 5 8 := ⟨_, rfl⟩
  have HX2 := Aside0.mk hx2
  obtain ⟨x3, hx3⟩ : ∃ x, x = numAt s 13 1 := ⟨_, rfl⟩
  have HX3 := Aside0.mk hx3
  have HN := Aside0.mk (show 13 ≤ s.size ∧ s.size ≤ 13 from ⟨h1, h2⟩)
  have b0 : decide (1024 < (s.size : Int)) = false := decide_eq_false (by omega)
  clear hs h1 h2 hx0 hx1 hx2 hx3 hy1
  have hmf : ∀ (fn : Fn) (first cap : Array Value) (w : World), (Instr.makeFunc fn first cap).run Try.prog w = .ok (.func fn first cap) w := fun _ _ _ _ => rfl
  go_enter_defers Try.func12, Try.ntmps12
  go_upto_region 4 with (first | (go_at_call 25; (with_reducible refine (num_New.calls s s 0 (iW w) _ (Below.refl _ _) rfl).mono ?_); rintro e w1 ⟨g, rfl, hi, hb, _⟩; have HP0 := Aside0.mk (newP (w := w) 34 (iW_b0 w) (iW_b1 w) (by simp) hi (show Below w.heap.size w w1 from (below_alloc (below_alloc (Below.refl _ _) _) _).trans (hb.mono (by simp; omega))) hb); have r4 := cellAt (i := 0) HP0.out.box rfl; clear hi hb) | (go_at_call 27; (with_reducible refine (reader_num g s 0 1 w _ HP0.out.rd HP0.out.bel (by omega) (by have := HN.out; omega) (by omega) (by omega) HS.out).mono ?_); clear r4; rintro e w2 ⟨rfl, hi, hb, hk⟩; rw [← HX0.out]; have HP1 := Aside0.mk (HP0.out.call (show IsS93 w w2 g s 1 by simpa using hi) hb hk); have r4 := cellAt (i := 0) HP1.out.box rfl; have k0 := cellAt (i := 0) HP1.out.t2 rfl; have f0 := blk_frozen HP1.out.t2 0; clear hi hb hk))
  have HP2 := Aside0.mk (show PS 34 w (w2.setCell ⟨w.heap.size, 0, none⟩ (.int .i64 2)) g w1.heap.size s 1 #[.int .i64 2, .string ⟨#[]⟩, .int .u32 0, .int .u64 0, .bool false, .bool false, .int .u64 0, .int .u64 0, .int .i64 0, .int .u64 0, .slice none 0 0, .int .u64 0, .int .u64 0, .int .i64 0, .int .u64 0, .int .u64 0, .int .i64 0, .int .i64 0] from HP1.out.set 0 _)
  clear r4 k0 f0
  generalize w2.setCell ⟨w.heap.size, 0, none⟩ (.int .i64 2) = W2 at HP2 ⊢
  have r4 := cellAt (i := 0) HP2.out.box rfl
  have k0 := cellAt (i := 0) HP2.out.t2 rfl
  go_wp2_with (first | (go_at_call 26; (with_reducible refine (bad_no _ _).mono ?_); rintro e w_ ⟨rfl, rfl⟩))
  refine start_ (n := 11) (S := fun w' => w'.cell? ⟨w1.heap.size, 0, none⟩ = some (.pointer (some ⟨g, 0, none⟩))) (ds := []) #[false, false, false, false, false, false, false, false, false, false, false] (by kernel_rfl) rfl rfl (show _ = _ from r4) (fun hHeld => ?_)
  have HPd := Aside0.mk (HP2.out.below (W1 := W2.drew) (below_drew (Below.refl _ _)))
  generalize W2.drew = wd at HPd hHeld ⊢
  refine pure_ (i := 0) (N := some 32) (v := ?_) (a' := ?_) #[true, false, false, false, false, false, false, false, false, false, false] rfl rfl (by kernel_rfl) (fun c a w h => hq12 32 (by decide) (by decide) _ c a w h) (Or.inl ⟨by rfl, ?_⟩) ?_ ?_
  rotate_left
  · intro w'
    go_simp
    with_reducible rfl
  rotate_left
  · simp only [Act.put, List.setIfInBounds_toArray, List.set_cons_zero, List.set_cons_succ, i64_w, i32_w]
    rfl
  refine take_ (i := 1) (N := some 33) (v := ?_) (a' := ?_) #[true, true, false, false, false, false, false, false, false, false, false] rfl rfl (by kernel_rfl) (fun c a w h => hq12 33 (by decide) (by decide) _ c a w h) (Or.inl ⟨by rfl, ?_⟩) hHeld ?_ ?_
  rotate_left
  · rintro w' s0
    go_simp
    with_reducible rfl
  rotate_left
  · simp only [Act.put, List.setIfInBounds_toArray, List.set_cons_zero, List.set_cons_succ, i64_w, i32_w]
    rfl
  refine pure_ (i := 4) (N := some 36) (v := ?_) (a' := ?_) #[true, true, false, false, true, false, false, false, false, false, false] rfl rfl (by kernel_rfl) (fun c a w h => hq12 36 (by decide) (by decide) _ c a w h) (Or.inl ⟨by rfl, ?_⟩) ?_ ?_
  rotate_left
  · intro w'
    go_simp
    with_reducible rfl
  rotate_left
  · simp only [Act.put, List.setIfInBounds_toArray, List.set_cons_zero, List.set_cons_succ, i64_w, i32_w]
    rfl
  refine take_ (i := 5) (N := some 37) (v := ?_) (a' := ?_) #[true, true, false, false, true, true, false, false, false, false, false] rfl rfl (by kernel_rfl) (fun c a w h => hq12 37 (by decide) (by decide) _ c a w h) (Or.inl ⟨by rfl, ?_⟩) hHeld ?_ ?_
  rotate_left
  · rintro w' s0
    go_simp
    with_reducible rfl
  rotate_left
  · simp only [Act.put, List.setIfInBounds_toArray, List.set_cons_zero, List.set_cons_succ, i64_w, i32_w]
    rfl
  refine one_ (i := 2) (N := some 34) #[true, true, true, false, true, true, false, false, false, false, false] rfl rfl (by kernel_rfl) (by decide) (fun K hK => ?_)
  refine goes_ Try.func27 (by kernel_rfl) rfl #[.pointer (some ⟨g, 0, none⟩), .int .i64 4] (by rfl) rfl rfl (by (try simp only [List.map_toArray, List.map_cons, List.map_nil]); first | done | rfl) ?_
  with_reducible refine (reader_num g s 1 4 w _ HPd.out.rd HPd.out.bel (by omega) (by have := HN.out; omega) (by omega) (by omega) HS.out).mono ?_
  rintro e wd0 ⟨rfl, hi, hb, hk⟩
  rw [← HX1.out]
  refine ⟨_, rfl, ?_⟩
  have HPd0 := Aside0.mk (HPd.out.call (show IsS93 w wd0 g s 5 by simpa using hi) hb hk)
  clear hi hb hk
  refine hK.out _ _ (cellAt (i := 0) HPd0.out.box rfl) (fun hHeld => ?_)
  clear hK K
  refine norm_ (a' := ?_) ?_ ?_
  rotate_left
  · show Act.put _ (some 34) _ = _
    simp only [Act.put, List.setIfInBounds_toArray, List.set_cons_zero, List.set_cons_succ, i64_w, i32_w]
    rfl
  refine pure_ (i := 3) (N := some 35) (v := ?_) (a' := ?_) #[true, true, true, true, true, true, false, false, false, false, false] rfl rfl (by kernel_rfl) (fun c a w h => hq12 35 (by decide) (by decide) _ c a w h) (Or.inl ⟨by rfl, ?_⟩) ?_ ?_
  rotate_left
  · intro w'
    go_simp
    with_reducible rfl
  rotate_left
  · simp only [Act.put, List.setIfInBounds_toArray, List.set_cons_zero, List.set_cons_succ, i64_w, i32_w]
    rfl
  refine pure_ (i := 7) (N := some 39) (v := ?_) (a' := ?_) #[true, true, true, true, true, true, false, true, false, false, false] rfl rfl (by kernel_rfl) (fun c a w h => hq12 39 (by decide) (by decide) _ c a w h) (Or.inl ⟨by rfl, ?_⟩) ?_ ?_
  rotate_left
  · intro w'
    go_simp
    with_reducible rfl
  rotate_left
  · simp only [Act.put, List.setIfInBounds_toArray, List.set_cons_zero, List.set_cons_succ, i64_w, i32_w]
    rfl
  refine one_ (i := 6) (N := some 38) #[true, true, true, true, true, true, true, true, false, false, false] rfl rfl (by kernel_rfl) (by decide) (fun K hK => ?_)
  refine goes_ Try.func27 (by kernel_rfl) rfl #[.pointer (some ⟨g, 0, none⟩), .int .i64 8] (by rfl) rfl rfl (by (try simp only [List.map_toArray, List.map_cons, List.map_nil]); first | done | rfl) ?_
  with_reducible refine (reader_num g s 5 8 w _ HPd0.out.rd HPd0.out.bel (by omega) (by have := HN.out; omega) (by omega) (by omega) HS.out).mono ?_
  rintro e wd1 ⟨rfl, hi, hb, hk⟩
  rw [← HX2.out]
  refine ⟨_, rfl, ?_⟩
  have HPd1 := Aside0.mk (HPd0.out.call (show IsS93 w wd1 g s 13 by simpa using hi) hb hk)
  clear hi hb hk
  refine hK.out _ _ (cellAt (i := 0) HPd1.out.box rfl) (fun hHeld => ?_)
  clear hK K
  refine norm_ (a' := ?_) ?_ ?_
  rotate_left
  · show Act.put _ (some 38) _ = _
    simp only [Act.put, List.setIfInBounds_toArray, List.set_cons_zero, List.set_cons_succ, i64_w, i32_w]
    rfl
  have s2 := cellAt (i := 2) HPd1.out.t2 rfl
  have f2 := blk_frozen HPd1.out.t2 2
  refine one_ (i := 8) (N := none) #[true, true, true, true, true, true, true, true, true, false, false] rfl rfl (by kernel_rfl) (by decide) (fun K hK => ?_)
  refine skip_ (w1 := ?_) (by rfl) rfl ?_ ?_
  rotate_left
  · go_simp
    rfl
  have HPs0 := Aside0.mk (HPd1.out.set 2 (.int .u32 y1))
  refine hK.out _ _ (cellAt (i := 0) HPs0.out.box rfl) (fun hHeld => ?_)
  clear hK K s2 f2
  generalize wd1.setCell ⟨w.heap.size, 2, none⟩ (.int .u32 y1) = ws0 at HPs0 hHeld ⊢
  refine pure_ (i := 9) (N := some 40) (v := ?_) (a' := ?_) #[true, true, true, true, true, true, true, true, true, true, false] rfl rfl (by kernel_rfl) (fun c a w h => hq12 40 (by decide) (by decide) _ c a w h) (Or.inl ⟨by rfl, ?_⟩) ?_ ?_
  rotate_left
  · intro w'
    go_simp
    with_reducible rfl
  rotate_left
  · simp only [Act.put, List.setIfInBounds_toArray, List.set_cons_zero, List.set_cons_succ, i64_w, i32_w]
    rfl
  have s3 := cellAt (i := 3) HPs0.out.t2 rfl
  have f3 := blk_frozen HPs0.out.t2 3
  refine one_ (i := 10) (N := none) #[true, true, true, true, true, true, true, true, true, true, true] rfl rfl (by kernel_rfl) (by decide) (fun K hK => ?_)
  refine skip_ (w1 := ?_) (by rfl) rfl ?_ ?_
  rotate_left
  · go_simp
    rfl
  have HPs1 := Aside0.mk (HPs0.out.set 3 (.int .u64 x2))
  refine hK.out _ _ (cellAt (i := 0) HPs1.out.box rfl) (fun hHeld => ?_)
  clear hK K s3 f3
  generalize ws0.setCell ⟨w.heap.size, 3, none⟩ (.int .u64 x2) = ws1 at HPs1 hHeld ⊢
  refine done_ (by kernel_rfl) ?_
  clear r4 k0
  have HP3 := Aside0.mk (show PS 34 w ws1 g w1.heap.size s 13 #[.int .i64 2, .string ⟨#[]⟩, .int .u32 y1, .int .u64 x2, .bool false, .bool false, .int .u64 0, .int .u64 0, .int .i64 0, .int .u64 0, .slice none 0 0, .int .u64 0, .int .u64 0, .int .i64 0, .int .u64 0, .int .u64 0, .int .i64 0, .int .i64 0] from HPs1.out)
  have r4 := cellAt (i := 0) HP3.out.box rfl
  clear hHeld
  go_wp2_with (first | (go_at_call 27; (with_reducible refine (reader_num_bad g s 13 1 w _ HP3.out.rd HP3.out.bel (by omega) (by have := HN.out; omega) (by have := HN.out; omega) (by omega) (by omega) HS.out).mono ?_); clear r4; rintro e w9 ⟨rfl, hb, hk⟩; have HRB := Aside0.mk (show _ ∧ _ ∧ Below w.heap.size w _ from ⟨hk.blk HP3.out.t2 (by have := HP3.out.gg; omega) (by simp), hk.blk HP3.out.t3 (by have := HP3.out.gg; omega) (by simp), hb⟩); clear hb hk))
  refine leaves_cons (f := 33) (args := #[.pointer (some ⟨w.heap.size, 0, none⟩), .pointer (some ⟨w.heap.size + 1, 0, none⟩)]) (by simp) (by simp [go_sem]) ?_
  refine (parseItem_catch w.heap.size (w.heap.size + 1) _ rfl 0 2 (by decide) _ HRB.out.1 HRB.out.2.1).mono ?_
  rintro e u' w'' ⟨rfl, rfl, k0, k1, hbl⟩
  have hb := hbl w HRB.out.2.2 (Nat.le_refl _) (by omega)
  exact ⟨_, results_cells2 rfl rfl rfl (run_loadVar_row (P := Try.prog) w'' w.heap.size 34 34 _ (0, 0) _ k0 Try.underlying34 rfl (by kernel_rfl)) (load_err k1), rfl, hb⟩
set_option maxHeartbeats 8000000 in
set_option maxRecDepth 100000 in
theorem pi2_flags (s : ByteArray) (w : World) (hs : s.size ≤ 1000000) (h1 : 14 ≤ s.size) (hk0 : IntKind.i64.wrap (numAt s 0 1) = 2) (h2 : s.size ≤ 1024) (h3 : 3 < numAt s 13 1) :
    Calls Try.prog 12 #[.string s] w fun e w' => e = .returned (.tuple #[.agg #[.int .i64 0, .string ⟨#[]⟩, .int .u32 0, .int .u64 0, .bool false, .bool false, .int .u64 0, .int .u64 0, .int .i64 0, .int .u64 0, .slice none 0 0, .int .u64 0, .int .u64 0, .int .i64 0, .int .u64 0, .int .u64 0, .int .i64 0, .int .i64 0], .int .i64 1]) ∧ Below w.heap.size w w' := by
  obtain ⟨x0, hx0⟩ : ∃ x, x = numAt s 0 1 := ⟨_, rfl⟩
  have HX0 := Aside0.mk hx0
  have HS := Aside0.mk hs
  rw [← hx0] at hk0
  obtain ⟨x1, hx1⟩ : ∃ x, x = numAt s 1 4 := ⟨_, rfl⟩
  have HX1 := Aside0.mk hx1
  obtain ⟨y1, hy1⟩ : ∃ y, y = IntKind.u32.wrap x1 := ⟨_, rfl⟩
  have HY1 := Aside0.mk hy1
  have hyry1 : IntKind.u32.wrap x1 = y1 := hy1.symm
  obtain ⟨x2, hx2⟩ : ∃ x, x = numAt s 5 8 := ⟨_, rfl⟩
  have HX2 := Aside0.mk hx2
  obtain ⟨x3, hx3⟩ : ∃ x, x = numAt s 13 1 := ⟨_, rfl⟩
  have HX3 := Aside0.mk hx3
  rw [← hx3] at h3
  have b1 : decide (3 < x3) = true := decide_eq_true h3
  have HN := Aside0.mk (show 14 ≤ s.size ∧ s.size ≤ 1024 from ⟨h1, h2⟩)
  have b0 : decide (1024 < (s.size : Int)) = false := decide_eq_false (by omega)
  clear hs h1 h2 hx0 hx1 hx2 hx3 hy1 h3
  have hmf : ∀ (fn : Fn) (first cap : Array Value) (w : World), (Instr.makeFunc fn first cap).run Try.prog w = .ok (.func fn first cap) w := fun _ _ _ _ => rfl
  go_enter_defers Try.func12, Try.ntmps12
  go_upto_region 4 with (first | (go_at_call 25; (with_reducible refine (num_New.calls s s 0 (iW w) _ (Below.refl _ _) rfl).mono ?_); rintro e w1 ⟨g, rfl, hi, hb, _⟩; have HP0 := Aside0.mk (newP (w := w) 34 (iW_b0 w) (iW_b1 w) (by simp) hi (show Below w.heap.size w w1 from (below_alloc (below_alloc (Below.refl _ _) _) _).trans (hb.mono (by simp; omega))) hb); have r4 := cellAt (i := 0) HP0.out.box rfl; clear hi hb) | (go_at_call 27; (with_reducible refine (reader_num g s 0 1 w _ HP0.out.rd HP0.out.bel (by omega) (by have := HN.out; omega) (by omega) (by omega) HS.out).mono ?_); clear r4; rintro e w2 ⟨rfl, hi, hb, hk⟩; rw [← HX0.out]; have HP1 := Aside0.mk (HP0.out.call (show IsS93 w w2 g s 1 by simpa using hi) hb hk); have r4 := cellAt (i := 0) HP1.out.box rfl; have k0 := cellAt (i := 0) HP1.out.t2 rfl; have f0 := blk_frozen HP1.out.t2 0; clear hi hb hk))
  have HP2 := Aside0.mk (show PS 34 w (w2.setCell ⟨w.heap.size, 0, none⟩ (.int .i64 2)) g w1.heap.size s 1 #[.int .i64 2, .string ⟨#[]⟩, .int .u32 0, .int .u64 0, .bool false, .bool false, .int .u64 0, .int .u64 0, .int .i64 0, .int .u64 0, .slice none 0 0, .int .u64 0, .int .u64 0, .int .i64 0, .int .u64 0, .int .u64 0, .int .i64 0, .int .i64 0] from HP1.out.set 0 _)
  clear r4 k0 f0
  generalize w2.setCell ⟨w.heap.size, 0, none⟩ (.int .i64 2) = W2 at HP2 ⊢
  have r4 := cellAt (i := 0) HP2.out.box rfl
  have k0 := cellAt (i := 0) HP2.out.t2 rfl
  go_wp2_with (first | (go_at_call 26; (with_reducible refine (bad_no _ _).mono ?_); rintro e w_ ⟨rfl, rfl⟩))
  refine start_ (n := 11) (S := fun w' => w'.cell? ⟨w1.heap.size, 0, none⟩ = some (.pointer (some ⟨g, 0, none⟩))) (ds := []) #[false, false, false, false, false, false, false, false, false, false, false] (by kernel_rfl) rfl rfl (show _ = _ from r4) (fun hHeld => ?_)
  have HPd := Aside0.mk (HP2.out.below (W1 := W2.drew) (below_drew (Below.refl _ _)))
  generalize W2.drew = wd at HPd hHeld ⊢
  refine pure_ (i := 0) (N := some 32) (v := ?_) (a' := ?_) #[true, false, false, false, false, false, false, false, false, false, false] rfl rfl (by kernel_rfl) (fun c a w h => hq12 32 (by decide) (by decide) _ c a w h) (Or.inl ⟨by rfl, ?_⟩) ?_ ?_
  rotate_left
  · intro w'
    go_simp
    with_reducible rfl
  rotate_left
  · simp only [Act.put, List.setIfInBounds_toArray, List.set_cons_zero, List.set_cons_succ, i64_w, i32_w]
    rfl
  refine take_ (i := 1) (N := some 33) (v := ?_) (a' := ?_) #[true, true, false, false, false, false, false, false, false, false, false] rfl rfl (by kernel_rfl) (fun c a w h => hq12 33 (by decide) (by decide) _ c a w h) (Or.inl ⟨by rfl, ?_⟩) hHeld ?_ ?_
  rotate_left
  · rintro w' s0
    go_simp
    with_reducible rfl
  rotate_left
  · simp only [Act.put, List.setIfInBounds_toArray, List.set_cons_zero, List.set_cons_succ, i64_w, i32_w]
    rfl
  refine pure_ (i := 4) (N := some 36) (v := ?_) (a' := ?_) #[true, true, false, false, true, false, false, false, false, false, false] rfl rfl (by kernel_rfl) (fun c a w h => hq12 36 (by decide) (by decide) _ c a w h) (Or.inl ⟨by rfl, ?_⟩) ?_ ?_
  rotate_left
  · intro w'
    go_simp
    with_reducible rfl
  rotate_left
  · simp only [Act.put, List.setIfInBounds_toArray, List.set_cons_zero, List.set_cons_succ, i64_w, i32_w]
    rfl
  refine take_ (i := 5) (N := some 37) (v := ?_) (a' := ?_) #[true, true, false, false, true, true, false, false, false, false, false] rfl rfl (by kernel_rfl) (fun c a w h => hq12 37 (by decide) (by decide) _ c a w h) (Or.inl ⟨by rfl, ?_⟩) hHeld ?_ ?_
  rotate_left
  · rintro w' s0
    go_simp
    with_reducible rfl
  rotate_left
  · simp only [Act.put, List.setIfInBounds_toArray, List.set_cons_zero, List.set_cons_succ, i64_w, i32_w]
    rfl
  refine one_ (i := 2) (N := some 34) #[true, true, true, false, true, true, false, false, false, false, false] rfl rfl (by kernel_rfl) (by decide) (fun K hK => ?_)
  refine goes_ Try.func27 (by kernel_rfl) rfl #[.pointer (some ⟨g, 0, none⟩), .int .i64 4] (by rfl) rfl rfl (by (try simp only [List.map_toArray, List.map_cons, List.map_nil]); first | done | rfl) ?_
  with_reducible refine (reader_num g s 1 4 w _ HPd.out.rd HPd.out.bel (by omega) (by have := HN.out; omega) (by omega) (by omega) HS.out).mono ?_
  rintro e wd0 ⟨rfl, hi, hb, hk⟩
  rw [← HX1.out]
  refine ⟨_, rfl, ?_⟩
  have HPd0 := Aside0.mk (HPd.out.call (show IsS93 w wd0 g s 5 by simpa using hi) hb hk)
  clear hi hb hk
  refine hK.out _ _ (cellAt (i := 0) HPd0.out.box rfl) (fun hHeld => ?_)
  clear hK K
  refine norm_ (a' := ?_) ?_ ?_
  rotate_left
  · show Act.put _ (some 34) _ = _
    simp only [Act.put, List.setIfInBounds_toArray, List.set_cons_zero, List.set_cons_succ, i64_w, i32_w]
    rfl
  refine pure_ (i := 3) (N := some 35) (v := ?_) (a' := ?_) #[true, true, true, true, true, true, false, false, false, false, false] rfl rfl (by kernel_rfl) (fun c a w h => hq12 35 (by decide) (by decide) _ c a w h) (Or.inl ⟨by rfl, ?_⟩) ?_ ?_
  rotate_left
  · intro w'
    go_simp
    with_reducible rfl
  rotate_left
  · simp only [Act.put, List.setIfInBounds_toArray, List.set_cons_zero, List.set_cons_succ, i64_w, i32_w]
    rfl
  refine pure_ (i := 7) (N := some 39) (v := ?_) (a' := ?_) #[true, true, true, true, true, true, false, true, false, false, false] rfl rfl (by kernel_rfl) (fun c a w h => hq12 39 (by decide) (by decide) _ c a w h) (Or.inl ⟨by rfl, ?_⟩) ?_ ?_
  rotate_left
  · intro w'
    go_simp
    with_reducible rfl
  rotate_left
  · simp only [Act.put, List.setIfInBounds_toArray, List.set_cons_zero, List.set_cons_succ, i64_w, i32_w]
    rfl
  refine one_ (i := 6) (N := some 38) #[true, true, true, true, true, true, true, true, false, false, false] rfl rfl (by kernel_rfl) (by decide) (fun K hK => ?_)
  refine goes_ Try.func27 (by kernel_rfl) rfl #[.pointer (some ⟨g, 0, none⟩), .int .i64 8] (by rfl) rfl rfl (by (try simp only [List.map_toArray, List.map_cons, List.map_nil]); first | done | rfl) ?_
  with_reducible refine (reader_num g s 5 8 w _ HPd0.out.rd HPd0.out.bel (by omega) (by have := HN.out; omega) (by omega) (by omega) HS.out).mono ?_
  rintro e wd1 ⟨rfl, hi, hb, hk⟩
  rw [← HX2.out]
  refine ⟨_, rfl, ?_⟩
  have HPd1 := Aside0.mk (HPd0.out.call (show IsS93 w wd1 g s 13 by simpa using hi) hb hk)
  clear hi hb hk
  refine hK.out _ _ (cellAt (i := 0) HPd1.out.box rfl) (fun hHeld => ?_)
  clear hK K
  refine norm_ (a' := ?_) ?_ ?_
  rotate_left
  · show Act.put _ (some 38) _ = _
    simp only [Act.put, List.setIfInBounds_toArray, List.set_cons_zero, List.set_cons_succ, i64_w, i32_w]
    rfl
  have s2 := cellAt (i := 2) HPd1.out.t2 rfl
  have f2 := blk_frozen HPd1.out.t2 2
  refine one_ (i := 8) (N := none) #[true, true, true, true, true, true, true, true, true, false, false] rfl rfl (by kernel_rfl) (by decide) (fun K hK => ?_)
  refine skip_ (w1 := ?_) (by rfl) rfl ?_ ?_
  rotate_left
  · go_simp
    rfl
  have HPs0 := Aside0.mk (HPd1.out.set 2 (.int .u32 y1))
  refine hK.out _ _ (cellAt (i := 0) HPs0.out.box rfl) (fun hHeld => ?_)
  clear hK K s2 f2
  generalize wd1.setCell ⟨w.heap.size, 2, none⟩ (.int .u32 y1) = ws0 at HPs0 hHeld ⊢
  refine pure_ (i := 9) (N := some 40) (v := ?_) (a' := ?_) #[true, true, true, true, true, true, true, true, true, true, false] rfl rfl (by kernel_rfl) (fun c a w h => hq12 40 (by decide) (by decide) _ c a w h) (Or.inl ⟨by rfl, ?_⟩) ?_ ?_
  rotate_left
  · intro w'
    go_simp
    with_reducible rfl
  rotate_left
  · simp only [Act.put, List.setIfInBounds_toArray, List.set_cons_zero, List.set_cons_succ, i64_w, i32_w]
    rfl
  have s3 := cellAt (i := 3) HPs0.out.t2 rfl
  have f3 := blk_frozen HPs0.out.t2 3
  refine one_ (i := 10) (N := none) #[true, true, true, true, true, true, true, true, true, true, true] rfl rfl (by kernel_rfl) (by decide) (fun K hK => ?_)
  refine skip_ (w1 := ?_) (by rfl) rfl ?_ ?_
  rotate_left
  · go_simp
    rfl
  have HPs1 := Aside0.mk (HPs0.out.set 3 (.int .u64 x2))
  refine hK.out _ _ (cellAt (i := 0) HPs1.out.box rfl) (fun hHeld => ?_)
  clear hK K s3 f3
  generalize ws0.setCell ⟨w.heap.size, 3, none⟩ (.int .u64 x2) = ws1 at HPs1 hHeld ⊢
  refine done_ (by kernel_rfl) ?_
  clear r4 k0
  have HP3 := Aside0.mk (show PS 34 w ws1 g w1.heap.size s 13 #[.int .i64 2, .string ⟨#[]⟩, .int .u32 y1, .int .u64 x2, .bool false, .bool false, .int .u64 0, .int .u64 0, .int .i64 0, .int .u64 0, .slice none 0 0, .int .u64 0, .int .u64 0, .int .i64 0, .int .u64 0, .int .u64 0, .int .i64 0, .int .i64 0] from HPs1.out)
  have r4 := cellAt (i := 0) HP3.out.box rfl
  clear hHeld
  go_wp2_with (first | (go_at_call 27; (with_reducible refine (reader_num g s 13 1 w _ HP3.out.rd HP3.out.bel (by omega) (by have := HN.out; omega) (by omega) (by omega) HS.out).mono ?_); clear r4; rintro e w3 ⟨rfl, hi, hb, hk⟩; rw [← HX3.out]; have HP5 := Aside0.mk (HP3.out.call (show IsS93 w w3 g s 14 by simpa using hi) hb hk); have r4 := cellAt (i := 0) HP5.out.box rfl; clear hi hb hk) | (go_at_call 26; (with_reducible refine (bad_yes 1 _).mono ?_); rintro e w_ ⟨rfl, rfl⟩))
  clear r4
  have HRB := Aside0.mk (show _ ∧ _ ∧ Below w.heap.size w _ from ⟨HP5.out.t2, HP5.out.t3, HP5.out.bel⟩)
  refine leaves_cons (f := 33) (args := #[.pointer (some ⟨w.heap.size, 0, none⟩), .pointer (some ⟨w.heap.size + 1, 0, none⟩)]) (by simp) (by simp [go_sem]) ?_
  refine (parseItem_catch w.heap.size (w.heap.size + 1) _ rfl 0 1 (by decide) _ HRB.out.1 HRB.out.2.1).mono ?_
  rintro e u' w'' ⟨rfl, rfl, k0, k1, hbl⟩
  have hb := hbl w HRB.out.2.2 (Nat.le_refl _) (by omega)
  exact ⟨_, results_cells2 rfl rfl rfl (run_loadVar_row (P := Try.prog) w'' w.heap.size 34 34 _ (0, 0) _ k0 Try.underlying34 rfl (by kernel_rfl)) (load_err k1), rfl, hb⟩
end Go.Proofs.Ytlkemknhmfjdpaa.P
/- ParseItem, by hand. -/
namespace Go.Proofs.Ytlkemknhmfjdpaa.P
open Go.RowKit Go.Proofs.YtlkemknhmfjdpaaW.PrintWords Go.Proofs.YtlkemknhmfjdpaaW.PrintLast Go.Proofs.YtlkemknhmfjdpaaW.PrintMore
attribute [local go_sem] max2_int min2_int max_two min_two max_three min_three max_four min_four
set_option linter.unusedVariables false
set_option linter.unusedSimpArgs false

set_option maxHeartbeats 8000000 in
set_option maxRecDepth 100000 in
theorem pi2_rec (s : ByteArray) (w : World) (hs : s.size ≤ 1000000) (h1 : 14 ≤ s.size) (hk0 : IntKind.i64.wrap (numAt s 0 1) = 2) (h2 : s.size ≤ 1024) (c : Int) (h3 : numAt s 13 1 ≤ 3) (h4 : recE s 14 = c) (hc : c ≠ 0) :
    Calls Try.prog 12 #[.string s] w fun e w' => e = .returned (.tuple #[.agg #[.int .i64 0, .string ⟨#[]⟩, .int .u32 0, .int .u64 0, .bool false, .bool false, .int .u64 0, .int .u64 0, .int .i64 0, .int .u64 0, .slice none 0 0, .int .u64 0, .int .u64 0, .int .i64 0, .int .u64 0, .int .u64 0, .int .i64 0, .int .i64 0], .int .i64 c]) ∧ Below w.heap.size w w' := by
  obtain ⟨x0, hx0⟩ : ∃ x, x = numAt s 0 1 := ⟨_, rfl⟩
  have HX0 := Aside0.mk hx0
  have HS := Aside0.mk hs
  rw [← hx0] at hk0
  obtain ⟨x1, hx1⟩ : ∃ x, x = numAt s 1 4 := ⟨_, rfl⟩
  have HX1 := Aside0.mk hx1
  obtain ⟨y1, hy1⟩ : ∃ y, y = IntKind.u32.wrap x1 := ⟨_, rfl⟩
  have HY1 := Aside0.mk hy1
  have hyry1 : IntKind.u32.wrap x1 = y1 := hy1.symm
  obtain ⟨x2, hx2⟩ : ∃ x, x = numAt s 5 8 := ⟨_, rfl⟩
  have HX2 := Aside0.mk hx2
  obtain ⟨x3, hx3⟩ : ∃ x, x = numAt s 13 1 := ⟨_, rfl⟩
  have HX3 := Aside0.mk hx3
  rw [← hx3] at h3
  have b1 : decide (3 < x3) = false := decide_eq_false (by omega)
  have HE := Aside0.mk h4
  have HCC := Aside0.mk hc
  have HN := Aside0.mk (show 14 ≤ s.size ∧ s.size ≤ 1024 from ⟨h1, h2⟩)
  have b0 : decide (1024 < (s.size : Int)) = false := decide_eq_false (by omega)
  clear hs h1 h2 hx0 hx1 hx2 hx3 hy1 h3 h4 hc
  have hmf : ∀ (fn : Fn) (first cap : Array Value) (w : World), (Instr.makeFunc fn first cap).run Try.prog w = .ok (.func fn first cap) w := fun _ _ _ _ => rfl
  go_enter_defers Try.func12, Try.ntmps12
  go_upto_region 4 with (first | (go_at_call 25; (with_reducible refine (num_New.calls s s 0 (iW w) _ (Below.refl _ _) rfl).mono ?_); rintro e w1 ⟨g, rfl, hi, hb, _⟩; have HP0 := Aside0.mk (newP (w := w) 34 (iW_b0 w) (iW_b1 w) (by simp) hi (show Below w.heap.size w w1 from (below_alloc (below_alloc (Below.refl _ _) _) _).trans (hb.mono (by simp; omega))) hb); have r4 := cellAt (i := 0) HP0.out.box rfl; clear hi hb) | (go_at_call 27; (with_reducible refine (reader_num g s 0 1 w _ HP0.out.rd HP0.out.bel (by omega) (by have := HN.out; omega) (by omega) (by omega) HS.out).mono ?_); clear r4; rintro e w2 ⟨rfl, hi, hb, hk⟩; rw [← HX0.out]; have HP1 := Aside0.mk (HP0.out.call (show IsS93 w w2 g s 1 by simpa using hi) hb hk); have r4 := cellAt (i := 0) HP1.out.box rfl; have k0 := cellAt (i := 0) HP1.out.t2 rfl; have f0 := blk_frozen HP1.out.t2 0; clear hi hb hk))
  have HP2 := Aside0.mk (show PS 34 w (w2.setCell ⟨w.heap.size, 0, none⟩ (.int .i64 2)) g w1.heap.size s 1 #[.int .i64 2, .string ⟨#[]⟩, .int .u32 0, .int .u64 0, .bool false, .bool false, .int .u64 0, .int .u64 0, .int .i64 0, .int .u64 0, .slice none 0 0, .int .u64 0, .int .u64 0, .int .i64 0, .int .u64 0, .int .u64 0, .int .i64 0, .int .i64 0] from HP1.out.set 0 _)
  clear r4 k0 f0
  generalize w2.setCell ⟨w.heap.size, 0, none⟩ (.int .i64 2) = W2 at HP2 ⊢
  have r4 := cellAt (i := 0) HP2.out.box rfl
  have k0 := cellAt (i := 0) HP2.out.t2 rfl
  go_wp2_with (first | (go_at_call 26; (with_reducible refine (bad_no _ _).mono ?_); rintro e w_ ⟨rfl, rfl⟩))
  refine start_ (n := 11) (S := fun w' => w'.cell? ⟨w1.heap.size, 0, none⟩ = some (.pointer (some ⟨g, 0, none⟩))) (ds := []) #[false, false, false, false, false, false, false, false, false, false, false] (by kernel_rfl) rfl rfl (show _ = _ from r4) (fun hHeld => ?_)
  have HPd := Aside0.mk (HP2.out.below (W1 := W2.drew) (below_drew (Below.refl _ _)))
  generalize W2.drew = wd at HPd hHeld ⊢
  refine pure_ (i := 0) (N := some 32) (v := ?_) (a' := ?_) #[true, false, false, false, false, false, false, false, false, false, false] rfl rfl (by kernel_rfl) (fun c a w h => hq12 32 (by decide) (by decide) _ c a w h) (Or.inl ⟨by rfl, ?_⟩) ?_ ?_
  rotate_left
  · intro w'
    go_simp
    with_reducible rfl
  rotate_left
  · simp only [Act.put, List.setIfInBounds_toArray, List.set_cons_zero, List.set_cons_succ, i64_w, i32_w]
    rfl
  refine take_ (i := 1) (N := some 33) (v := ?_) (a' := ?_) #[true, true, false, false, false, false, false, false, false, false, false] rfl rfl (by kernel_rfl) (fun c a w h => hq12 33 (by decide) (by decide) _ c a w h) (Or.inl ⟨by rfl, ?_⟩) hHeld ?_ ?_
  rotate_left
  · rintro w' s0
    go_simp
    with_reducible rfl
  rotate_left
  · simp only [Act.put, List.setIfInBounds_toArray, List.set_cons_zero, List.set_cons_succ, i64_w, i32_w]
    rfl
  refine pure_ (i := 4) (N := some 36) (v := ?_) (a' := ?_) #[true, true, false, false, true, false, false, false, false, false, false] rfl rfl (by kernel_rfl) (fun c a w h => hq12 36 (by decide) (by decide) _ c a w h) (Or.inl ⟨by rfl, ?_⟩) ?_ ?_
  rotate_left
  · intro w'
    go_simp
    with_reducible rfl
  rotate_left
  · simp only [Act.put, List.setIfInBounds_toArray, List.set_cons_zero, List.set_cons_succ, i64_w, i32_w]
    rfl
  refine take_ (i := 5) (N := some 37) (v := ?_) (a' := ?_) #[true, true, false, false, true, true, false, false, false, false, false] rfl rfl (by kernel_rfl) (fun c a w h => hq12 37 (by decide) (by decide) _ c a w h) (Or.inl ⟨by rfl, ?_⟩) hHeld ?_ ?_
  rotate_left
  · rintro w' s0
    go_simp
    with_reducible rfl
  rotate_left
  · simp only [Act.put, List.setIfInBounds_toArray, List.set_cons_zero, List.set_cons_succ, i64_w, i32_w]
    rfl
  refine one_ (i := 2) (N := some 34) #[true, true, true, false, true, true, false, false, false, false, false] rfl rfl (by kernel_rfl) (by decide) (fun K hK => ?_)
  refine goes_ Try.func27 (by kernel_rfl) rfl #[.pointer (some ⟨g, 0, none⟩), .int .i64 4] (by rfl) rfl rfl (by (try simp only [List.map_toArray, List.map_cons, List.map_nil]); first | done | rfl) ?_
  with_reducible refine (reader_num g s 1 4 w _ HPd.out.rd HPd.out.bel (by omega) (by have := HN.out; omega) (by omega) (by omega) HS.out).mono ?_
  rintro e wd0 ⟨rfl, hi, hb, hk⟩
  rw [← HX1.out]
  refine ⟨_, rfl, ?_⟩
  have HPd0 := Aside0.mk (HPd.out.call (show IsS93 w wd0 g s 5 by simpa using hi) hb hk)
  clear hi hb hk
  refine hK.out _ _ (cellAt (i := 0) HPd0.out.box rfl) (fun hHeld => ?_)
  clear hK K
  refine norm_ (a' := ?_) ?_ ?_
  rotate_left
  · show Act.put _ (some 34) _ = _
    simp only [Act.put, List.setIfInBounds_toArray, List.set_cons_zero, List.set_cons_succ, i64_w, i32_w]
    rfl
  refine pure_ (i := 3) (N := some 35) (v := ?_) (a' := ?_) #[true, true, true, true, true, true, false, false, false, false, false] rfl rfl (by kernel_rfl) (fun c a w h => hq12 35 (by decide) (by decide) _ c a w h) (Or.inl ⟨by rfl, ?_⟩) ?_ ?_
  rotate_left
  · intro w'
    go_simp
    with_reducible rfl
  rotate_left
  · simp only [Act.put, List.setIfInBounds_toArray, List.set_cons_zero, List.set_cons_succ, i64_w, i32_w]
    rfl
  refine pure_ (i := 7) (N := some 39) (v := ?_) (a' := ?_) #[true, true, true, true, true, true, false, true, false, false, false] rfl rfl (by kernel_rfl) (fun c a w h => hq12 39 (by decide) (by decide) _ c a w h) (Or.inl ⟨by rfl, ?_⟩) ?_ ?_
  rotate_left
  · intro w'
    go_simp
    with_reducible rfl
  rotate_left
  · simp only [Act.put, List.setIfInBounds_toArray, List.set_cons_zero, List.set_cons_succ, i64_w, i32_w]
    rfl
  refine one_ (i := 6) (N := some 38) #[true, true, true, true, true, true, true, true, false, false, false] rfl rfl (by kernel_rfl) (by decide) (fun K hK => ?_)
  refine goes_ Try.func27 (by kernel_rfl) rfl #[.pointer (some ⟨g, 0, none⟩), .int .i64 8] (by rfl) rfl rfl (by (try simp only [List.map_toArray, List.map_cons, List.map_nil]); first | done | rfl) ?_
  with_reducible refine (reader_num g s 5 8 w _ HPd0.out.rd HPd0.out.bel (by omega) (by have := HN.out; omega) (by omega) (by omega) HS.out).mono ?_
  rintro e wd1 ⟨rfl, hi, hb, hk⟩
  rw [← HX2.out]
  refine ⟨_, rfl, ?_⟩
  have HPd1 := Aside0.mk (HPd0.out.call (show IsS93 w wd1 g s 13 by simpa using hi) hb hk)
  clear hi hb hk
  refine hK.out _ _ (cellAt (i := 0) HPd1.out.box rfl) (fun hHeld => ?_)
  clear hK K
  refine norm_ (a' := ?_) ?_ ?_
  rotate_left
  · show Act.put _ (some 38) _ = _
    simp only [Act.put, List.setIfInBounds_toArray, List.set_cons_zero, List.set_cons_succ, i64_w, i32_w]
    rfl
  have s2 := cellAt (i := 2) HPd1.out.t2 rfl
  have f2 := blk_frozen HPd1.out.t2 2
  refine one_ (i := 8) (N := none) #[true, true, true, true, true, true, true, true, true, false, false] rfl rfl (by kernel_rfl) (by decide) (fun K hK => ?_)
  refine skip_ (w1 := ?_) (by rfl) rfl ?_ ?_
  rotate_left
  · go_simp
    rfl
  have HPs0 := Aside0.mk (HPd1.out.set 2 (.int .u32 y1))
  refine hK.out _ _ (cellAt (i := 0) HPs0.out.box rfl) (fun hHeld => ?_)
  clear hK K s2 f2
  generalize wd1.setCell ⟨w.heap.size, 2, none⟩ (.int .u32 y1) = ws0 at HPs0 hHeld ⊢
  refine pure_ (i := 9) (N := some 40) (v := ?_) (a' := ?_) #[true, true, true, true, true, true, true, true, true, true, false] rfl rfl (by kernel_rfl) (fun c a w h => hq12 40 (by decide) (by decide) _ c a w h) (Or.inl ⟨by rfl, ?_⟩) ?_ ?_
  rotate_left
  · intro w'
    go_simp
    with_reducible rfl
  rotate_left
  · simp only [Act.put, List.setIfInBounds_toArray, List.set_cons_zero, List.set_cons_succ, i64_w, i32_w]
    rfl
  have s3 := cellAt (i := 3) HPs0.out.t2 rfl
  have f3 := blk_frozen HPs0.out.t2 3
  refine one_ (i := 10) (N := none) #[true, true, true, true, true, true, true, true, true, true, true] rfl rfl (by kernel_rfl) (by decide) (fun K hK => ?_)
  refine skip_ (w1 := ?_) (by rfl) rfl ?_ ?_
  rotate_left
  · go_simp
    rfl
  have HPs1 := Aside0.mk (HPs0.out.set 3 (.int .u64 x2))
  refine hK.out _ _ (cellAt (i := 0) HPs1.out.box rfl) (fun hHeld => ?_)
  clear hK K s3 f3
  generalize ws0.setCell ⟨w.heap.size, 3, none⟩ (.int .u64 x2) = ws1 at HPs1 hHeld ⊢
  refine done_ (by kernel_rfl) ?_
  clear r4 k0
  have HP3 := Aside0.mk (show PS 34 w ws1 g w1.heap.size s 13 #[.int .i64 2, .string ⟨#[]⟩, .int .u32 y1, .int .u64 x2, .bool false, .bool false, .int .u64 0, .int .u64 0, .int .i64 0, .int .u64 0, .slice none 0 0, .int .u64 0, .int .u64 0, .int .i64 0, .int .u64 0, .int .u64 0, .int .i64 0, .int .i64 0] from HPs1.out)
  have r4 := cellAt (i := 0) HP3.out.box rfl
  clear hHeld
  go_upto_region 12 with (first | (go_at_call 27; (with_reducible refine (reader_num g s 13 1 w _ HP3.out.rd HP3.out.bel (by omega) (by have := HN.out; omega) (by omega) (by omega) HS.out).mono ?_); clear r4; rintro e w3 ⟨rfl, hi, hb, hk⟩; rw [← HX3.out]; have HP5 := Aside0.mk (HP3.out.call (show IsS93 w w3 g s 14 by simpa using hi) hb hk); have r4 := cellAt (i := 0) HP5.out.box rfl; have s4 := cellAt (i := 4) HP5.out.t2 rfl; have f4 := blk_frozen HP5.out.t2 4; have s5 := cellAt (i := 5) HP5.out.t2 rfl; have f5 := blk_frozen HP5.out.t2 5; clear hi hb hk) | (go_at_call 26; (with_reducible refine (bad_no _ _).mono ?_); rintro e w_ ⟨rfl, rfl⟩))
  have HP6 := Aside0.mk (show PS 34 w ((w3.setCell ⟨w.heap.size, 4, none⟩ (.bool (bits BinOp.and IntKind.u64 x3 1 != 0))).setCell ⟨w.heap.size, 5, none⟩ (.bool (bits BinOp.and IntKind.u64 x3 2 != 0))) g w1.heap.size s 14 #[.int .i64 2, .string ⟨#[]⟩, .int .u32 y1, .int .u64 x2, .bool (bits BinOp.and IntKind.u64 x3 1 != 0), .bool (bits BinOp.and IntKind.u64 x3 2 != 0), .int .u64 0, .int .u64 0, .int .i64 0, .int .u64 0, .slice none 0 0, .int .u64 0, .int .u64 0, .int .i64 0, .int .u64 0, .int .u64 0, .int .i64 0, .int .i64 0] from ((HP5.out.set 4 (.bool (bits BinOp.and IntKind.u64 x3 1 != 0))).set 5 (.bool (bits BinOp.and IntKind.u64 x3 2 != 0))))
  clear r4 s4 f4 s5 f5
  generalize ((w3.setCell ⟨w.heap.size, 4, none⟩ (.bool (bits BinOp.and IntKind.u64 x3 1 != 0))).setCell ⟨w.heap.size, 5, none⟩ (.bool (bits BinOp.and IntKind.u64 x3 2 != 0))) = W6 at HP6 ⊢
  have r4 := cellAt (i := 0) HP6.out.box rfl
  go_wp2_with (go_at_call 28; (with_reducible refine (reader_record_bad g s 14 w _ HP6.out.rd HP6.out.bel (by omega) HS.out c (by have := HN.out; omega) HE.out HCC.out).mono ?_); clear r4; rintro e w9 ⟨rfl, hb, hk⟩; have HRB := Aside0.mk (show _ ∧ _ ∧ Below w.heap.size w _ from ⟨hk.blk HP6.out.t2 (by have := HP6.out.gg; omega) (by simp), hk.blk HP6.out.t3 (by have := HP6.out.gg; omega) (by simp), hb⟩); clear hb hk)
  refine leaves_cons (f := 33) (args := #[.pointer (some ⟨w.heap.size, 0, none⟩), .pointer (some ⟨w.heap.size + 1, 0, none⟩)]) (by simp) (by simp [go_sem]) ?_
  refine (parseItem_catch w.heap.size (w.heap.size + 1) _ rfl 0 c HCC.out _ HRB.out.1 HRB.out.2.1).mono ?_
  rintro e u' w'' ⟨rfl, rfl, k0, k1, hbl⟩
  have hb := hbl w HRB.out.2.2 (Nat.le_refl _) (by omega)
  exact ⟨_, results_cells2 rfl rfl rfl (run_loadVar_row (P := Try.prog) w'' w.heap.size 34 34 _ (0, 0) _ k0 Try.underlying34 rfl (by kernel_rfl)) (load_err k1), rfl, hb⟩
set_option maxHeartbeats 8000000 in
set_option maxRecDepth 100000 in
theorem pi2_end (s : ByteArray) (w : World) (hs : s.size ≤ 1000000) (h1 : 14 ≤ s.size) (hk0 : IntKind.i64.wrap (numAt s 0 1) = 2) (h2 : s.size ≤ 1024) (h3 : numAt s 13 1 ≤ 3) (h4 : recE s 14 = 0) (h5 : 14 + 26 + 25 * ((recN s 14).toNat : Int) < s.size) :
    Calls Try.prog 12 #[.string s] w fun e w' => e = .returned (.tuple #[.agg #[.int .i64 0, .string ⟨#[]⟩, .int .u32 0, .int .u64 0, .bool false, .bool false, .int .u64 0, .int .u64 0, .int .i64 0, .int .u64 0, .slice none 0 0, .int .u64 0, .int .u64 0, .int .i64 0, .int .u64 0, .int .u64 0, .int .i64 0, .int .i64 0], .int .i64 4]) ∧ Below w.heap.size w w' := by
  obtain ⟨x0, hx0⟩ : ∃ x, x = numAt s 0 1 := ⟨_, rfl⟩
  have HX0 := Aside0.mk hx0
  have HS := Aside0.mk hs
  rw [← hx0] at hk0
  obtain ⟨x1, hx1⟩ : ∃ x, x = numAt s 1 4 := ⟨_, rfl⟩
  have HX1 := Aside0.mk hx1
  obtain ⟨y1, hy1⟩ : ∃ y, y = IntKind.u32.wrap x1 := ⟨_, rfl⟩
  have HY1 := Aside0.mk hy1
  have hyry1 : IntKind.u32.wrap x1 = y1 := hy1.symm
  obtain ⟨x2, hx2⟩ : ∃ x, x = numAt s 5 8 := ⟨_, rfl⟩
  have HX2 := Aside0.mk hx2
  obtain ⟨x3, hx3⟩ : ∃ x, x = numAt s 13 1 := ⟨_, rfl⟩
  have HX3 := Aside0.mk hx3
  rw [← hx3] at h3
  have b1 : decide (3 < x3) = false := decide_eq_false (by omega)
  obtain ⟨xv, hxv⟩ : ∃ x, x = viewAt s 14 := ⟨_, rfl⟩
  have HXV := Aside0.mk hxv
  obtain ⟨l, hl⟩ : ∃ l, l = viewsAt s (recN s 14).toNat (14 + 26) := ⟨_, rfl⟩
  have HL := Aside0.mk hl
  obtain ⟨q, hq⟩ : ∃ q, q = 14 + 26 + 25 * ((recN s 14).toNat : Int) := ⟨_, rfl⟩
  have HQ := Aside0.mk hq
  have HE := Aside0.mk h4
  rw [← hq] at h5
  have H5 := Aside0.mk h5
  have HN := Aside0.mk (show 14 ≤ s.size ∧ s.size ≤ 1024 from ⟨h1, h2⟩)
  have b0 : decide (1024 < (s.size : Int)) = false := decide_eq_false (by omega)
  clear hs h1 h2 hx0 hx1 hx2 hx3 hy1 h3 h4 h5 hxv hl hq
  have hmf : ∀ (fn : Fn) (first cap : Array Value) (w : World), (Instr.makeFunc fn first cap).run Try.prog w = .ok (.func fn first cap) w := fun _ _ _ _ => rfl
  go_enter_defers Try.func12, Try.ntmps12
  go_upto_region 4 with (first | (go_at_call 25; (with_reducible refine (num_New.calls s s 0 (iW w) _ (Below.refl _ _) rfl).mono ?_); rintro e w1 ⟨g, rfl, hi, hb, _⟩; have HP0 := Aside0.mk (newP (w := w) 34 (iW_b0 w) (iW_b1 w) (by simp) hi (show Below w.heap.size w w1 from (below_alloc (below_alloc (Below.refl _ _) _) _).trans (hb.mono (by simp; omega))) hb); have r4 := cellAt (i := 0) HP0.out.box rfl; clear hi hb) | (go_at_call 27; (with_reducible refine (reader_num g s 0 1 w _ HP0.out.rd HP0.out.bel (by omega) (by have := HN.out; omega) (by omega) (by omega) HS.out).mono ?_); clear r4; rintro e w2 ⟨rfl, hi, hb, hk⟩; rw [← HX0.out]; have HP1 := Aside0.mk (HP0.out.call (show IsS93 w w2 g s 1 by simpa using hi) hb hk); have r4 := cellAt (i := 0) HP1.out.box rfl; have k0 := cellAt (i := 0) HP1.out.t2 rfl; have f0 := blk_frozen HP1.out.t2 0; clear hi hb hk))
  have HP2 := Aside0.mk (show PS 34 w (w2.setCell ⟨w.heap.size, 0, none⟩ (.int .i64 2)) g w1.heap.size s 1 #[.int .i64 2, .string ⟨#[]⟩, .int .u32 0, .int .u64 0, .bool false, .bool false, .int .u64 0, .int .u64 0, .int .i64 0, .int .u64 0, .slice none 0 0, .int .u64 0, .int .u64 0, .int .i64 0, .int .u64 0, .int .u64 0, .int .i64 0, .int .i64 0] from HP1.out.set 0 _)
  clear r4 k0 f0
  generalize w2.setCell ⟨w.heap.size, 0, none⟩ (.int .i64 2) = W2 at HP2 ⊢
  have r4 := cellAt (i := 0) HP2.out.box rfl
  have k0 := cellAt (i := 0) HP2.out.t2 rfl
  go_wp2_with (first | (go_at_call 26; (with_reducible refine (bad_no _ _).mono ?_); rintro e w_ ⟨rfl, rfl⟩))
  refine start_ (n := 11) (S := fun w' => w'.cell? ⟨w1.heap.size, 0, none⟩ = some (.pointer (some ⟨g, 0, none⟩))) (ds := []) #[false, false, false, false, false, false, false, false, false, false, false] (by kernel_rfl) rfl rfl (show _ = _ from r4) (fun hHeld => ?_)
  have HPd := Aside0.mk (HP2.out.below (W1 := W2.drew) (below_drew (Below.refl _ _)))
  generalize W2.drew = wd at HPd hHeld ⊢
  refine pure_ (i := 0) (N := some 32) (v := ?_) (a' := ?_) #[true, false, false, false, false, false, false, false, false, false, false] rfl rfl (by kernel_rfl) (fun c a w h => hq12 32 (by decide) (by decide) _ c a w h) (Or.inl ⟨by rfl, ?_⟩) ?_ ?_
  rotate_left
  · intro w'
    go_simp
    with_reducible rfl
  rotate_left
  · simp only [Act.put, List.setIfInBounds_toArray, List.set_cons_zero, List.set_cons_succ, i64_w, i32_w]
    rfl
  refine take_ (i := 1) (N := some 33) (v := ?_) (a' := ?_) #[true, true, false, false, false, false, false, false, false, false, false] rfl rfl (by kernel_rfl) (fun c a w h => hq12 33 (by decide) (by decide) _ c a w h) (Or.inl ⟨by rfl, ?_⟩) hHeld ?_ ?_
  rotate_left
  · rintro w' s0
    go_simp
    with_reducible rfl
  rotate_left
  · simp only [Act.put, List.setIfInBounds_toArray, List.set_cons_zero, List.set_cons_succ, i64_w, i32_w]
    rfl
  refine pure_ (i := 4) (N := some 36) (v := ?_) (a' := ?_) #[true, true, false, false, true, false, false, false, false, false, false] rfl rfl (by kernel_rfl) (fun c a w h => hq12 36 (by decide) (by decide) _ c a w h) (Or.inl ⟨by rfl, ?_⟩) ?_ ?_
  rotate_left
  · intro w'
    go_simp
    with_reducible rfl
  rotate_left
  · simp only [Act.put, List.setIfInBounds_toArray, List.set_cons_zero, List.set_cons_succ, i64_w, i32_w]
    rfl
  refine take_ (i := 5) (N := some 37) (v := ?_) (a' := ?_) #[true, true, false, false, true, true, false, false, false, false, false] rfl rfl (by kernel_rfl) (fun c a w h => hq12 37 (by decide) (by decide) _ c a w h) (Or.inl ⟨by rfl, ?_⟩) hHeld ?_ ?_
  rotate_left
  · rintro w' s0
    go_simp
    with_reducible rfl
  rotate_left
  · simp only [Act.put, List.setIfInBounds_toArray, List.set_cons_zero, List.set_cons_succ, i64_w, i32_w]
    rfl
  refine one_ (i := 2) (N := some 34) #[true, true, true, false, true, true, false, false, false, false, false] rfl rfl (by kernel_rfl) (by decide) (fun K hK => ?_)
  refine goes_ Try.func27 (by kernel_rfl) rfl #[.pointer (some ⟨g, 0, none⟩), .int .i64 4] (by rfl) rfl rfl (by (try simp only [List.map_toArray, List.map_cons, List.map_nil]); first | done | rfl) ?_
  with_reducible refine (reader_num g s 1 4 w _ HPd.out.rd HPd.out.bel (by omega) (by have := HN.out; omega) (by omega) (by omega) HS.out).mono ?_
  rintro e wd0 ⟨rfl, hi, hb, hk⟩
  rw [← HX1.out]
  refine ⟨_, rfl, ?_⟩
  have HPd0 := Aside0.mk (HPd.out.call (show IsS93 w wd0 g s 5 by simpa using hi) hb hk)
  clear hi hb hk
  refine hK.out _ _ (cellAt (i := 0) HPd0.out.box rfl) (fun hHeld => ?_)
  clear hK K
  refine norm_ (a' := ?_) ?_ ?_
  rotate_left
  · show Act.put _ (some 34) _ = _
    simp only [Act.put, List.setIfInBounds_toArray, List.set_cons_zero, List.set_cons_succ, i64_w, i32_w]
    rfl
  refine pure_ (i := 3) (N := some 35) (v := ?_) (a' := ?_) #[true, true, true, true, true, true, false, false, false, false, false] rfl rfl (by kernel_rfl) (fun c a w h => hq12 35 (by decide) (by decide) _ c a w h) (Or.inl ⟨by rfl, ?_⟩) ?_ ?_
  rotate_left
  · intro w'
    go_simp
    with_reducible rfl
  rotate_left
  · simp only [Act.put, List.setIfInBounds_toArray, List.set_cons_zero, List.set_cons_succ, i64_w, i32_w]
    rfl
  refine pure_ (i := 7) (N := some 39) (v := ?_) (a' := ?_) #[true, true, true, true, true, true, false, true, false, false, false] rfl rfl (by kernel_rfl) (fun c a w h => hq12 39 (by decide) (by decide) _ c a w h) (Or.inl ⟨by rfl, ?_⟩) ?_ ?_
  rotate_left
  · intro w'
    go_simp
    with_reducible rfl
  rotate_left
  · simp only [Act.put, List.setIfInBounds_toArray, List.set_cons_zero, List.set_cons_succ, i64_w, i32_w]
    rfl
  refine one_ (i := 6) (N := some 38) #[true, true, true, true, true, true, true, true, false, false, false] rfl rfl (by kernel_rfl) (by decide) (fun K hK => ?_)
  refine goes_ Try.func27 (by kernel_rfl) rfl #[.pointer (some ⟨g, 0, none⟩), .int .i64 8] (by rfl) rfl rfl (by (try simp only [List.map_toArray, List.map_cons, List.map_nil]); first | done | rfl) ?_
  with_reducible refine (reader_num g s 5 8 w _ HPd0.out.rd HPd0.out.bel (by omega) (by have := HN.out; omega) (by omega) (by omega) HS.out).mono ?_
  rintro e wd1 ⟨rfl, hi, hb, hk⟩
  rw [← HX2.out]
  refine ⟨_, rfl, ?_⟩
  have HPd1 := Aside0.mk (HPd0.out.call (show IsS93 w wd1 g s 13 by simpa using hi) hb hk)
  clear hi hb hk
  refine hK.out _ _ (cellAt (i := 0) HPd1.out.box rfl) (fun hHeld => ?_)
  clear hK K
  refine norm_ (a' := ?_) ?_ ?_
  rotate_left
  · show Act.put _ (some 38) _ = _
    simp only [Act.put, List.setIfInBounds_toArray, List.set_cons_zero, List.set_cons_succ, i64_w, i32_w]
    rfl
  have s2 := cellAt (i := 2) HPd1.out.t2 rfl
  have f2 := blk_frozen HPd1.out.t2 2
  refine one_ (i := 8) (N := none) #[true, true, true, true, true, true, true, true, true, false, false] rfl rfl (by kernel_rfl) (by decide) (fun K hK => ?_)
  refine skip_ (w1 := ?_) (by rfl) rfl ?_ ?_
  rotate_left
  · go_simp
    rfl
  have HPs0 := Aside0.mk (HPd1.out.set 2 (.int .u32 y1))
  refine hK.out _ _ (cellAt (i := 0) HPs0.out.box rfl) (fun hHeld => ?_)
  clear hK K s2 f2
  generalize wd1.setCell ⟨w.heap.size, 2, none⟩ (.int .u32 y1) = ws0 at HPs0 hHeld ⊢
  refine pure_ (i := 9) (N := some 40) (v := ?_) (a' := ?_) #[true, true, true, true, true, true, true, true, true, true, false] rfl rfl (by kernel_rfl) (fun c a w h => hq12 40 (by decide) (by decide) _ c a w h) (Or.inl ⟨by rfl, ?_⟩) ?_ ?_
  rotate_left
  · intro w'
    go_simp
    with_reducible rfl
  rotate_left
  · simp only [Act.put, List.setIfInBounds_toArray, List.set_cons_zero, List.set_cons_succ, i64_w, i32_w]
    rfl
  have s3 := cellAt (i := 3) HPs0.out.t2 rfl
  have f3 := blk_frozen HPs0.out.t2 3
  refine one_ (i := 10) (N := none) #[true, true, true, true, true, true, true, true, true, true, true] rfl rfl (by kernel_rfl) (by decide) (fun K hK => ?_)
  refine skip_ (w1 := ?_) (by rfl) rfl ?_ ?_
  rotate_left
  · go_simp
    rfl
  have HPs1 := Aside0.mk (HPs0.out.set 3 (.int .u64 x2))
  refine hK.out _ _ (cellAt (i := 0) HPs1.out.box rfl) (fun hHeld => ?_)
  clear hK K s3 f3
  generalize ws0.setCell ⟨w.heap.size, 3, none⟩ (.int .u64 x2) = ws1 at HPs1 hHeld ⊢
  refine done_ (by kernel_rfl) ?_
  clear r4 k0
  have HP3 := Aside0.mk (show PS 34 w ws1 g w1.heap.size s 13 #[.int .i64 2, .string ⟨#[]⟩, .int .u32 y1, .int .u64 x2, .bool false, .bool false, .int .u64 0, .int .u64 0, .int .i64 0, .int .u64 0, .slice none 0 0, .int .u64 0, .int .u64 0, .int .i64 0, .int .u64 0, .int .u64 0, .int .i64 0, .int .i64 0] from HPs1.out)
  have r4 := cellAt (i := 0) HP3.out.box rfl
  clear hHeld
  go_upto_region 12 with (first | (go_at_call 27; (with_reducible refine (reader_num g s 13 1 w _ HP3.out.rd HP3.out.bel (by omega) (by have := HN.out; omega) (by omega) (by omega) HS.out).mono ?_); clear r4; rintro e w3 ⟨rfl, hi, hb, hk⟩; rw [← HX3.out]; have HP5 := Aside0.mk (HP3.out.call (show IsS93 w w3 g s 14 by simpa using hi) hb hk); have r4 := cellAt (i := 0) HP5.out.box rfl; have s4 := cellAt (i := 4) HP5.out.t2 rfl; have f4 := blk_frozen HP5.out.t2 4; have s5 := cellAt (i := 5) HP5.out.t2 rfl; have f5 := blk_frozen HP5.out.t2 5; clear hi hb hk) | (go_at_call 26; (with_reducible refine (bad_no _ _).mono ?_); rintro e w_ ⟨rfl, rfl⟩))
  have HP6 := Aside0.mk (show PS 34 w ((w3.setCell ⟨w.heap.size, 4, none⟩ (.bool (bits BinOp.and IntKind.u64 x3 1 != 0))).setCell ⟨w.heap.size, 5, none⟩ (.bool (bits BinOp.and IntKind.u64 x3 2 != 0))) g w1.heap.size s 14 #[.int .i64 2, .string ⟨#[]⟩, .int .u32 y1, .int .u64 x2, .bool (bits BinOp.and IntKind.u64 x3 1 != 0), .bool (bits BinOp.and IntKind.u64 x3 2 != 0), .int .u64 0, .int .u64 0, .int .i64 0, .int .u64 0, .slice none 0 0, .int .u64 0, .int .u64 0, .int .i64 0, .int .u64 0, .int .u64 0, .int .i64 0, .int .i64 0] from ((HP5.out.set 4 (.bool (bits BinOp.and IntKind.u64 x3 1 != 0))).set 5 (.bool (bits BinOp.and IntKind.u64 x3 2 != 0))))
  clear r4 s4 f4 s5 f5
  generalize ((w3.setCell ⟨w.heap.size, 4, none⟩ (.bool (bits BinOp.and IntKind.u64 x3 1 != 0))).setCell ⟨w.heap.size, 5, none⟩ (.bool (bits BinOp.and IntKind.u64 x3 2 != 0))) = W6 at HP6 ⊢
  have r4 := cellAt (i := 0) HP6.out.box rfl
  go_upto_region 17 with ((go_at_call 28; (with_reducible refine (reader_record_good g s 14 w _ HP6.out.rd HP6.out.bel (by omega) HS.out HE.out xv HXV.out l HL.out q HQ.out).mono ?_); clear r4; rintro e w7 ⟨v7, rfl, ho, hi, hb, hk⟩; obtain ⟨A7, c7, rfl⟩ := Kd.R_slice ho; have HP7 := Aside0.mk (HP6.out.call hi hb hk); have HO7 := Aside0.mk (Kd.R_lower ho HP6.out.bel.size); have r4 := cellAt (i := 0) HP7.out.box rfl; have s6 := cellAt (i := 6) HP7.out.t2 rfl; have f6 := blk_frozen HP7.out.t2 6; have s7 := cellAt (i := 7) HP7.out.t2 rfl; have f7 := blk_frozen HP7.out.t2 7; have s8 := cellAt (i := 8) HP7.out.t2 rfl; have f8 := blk_frozen HP7.out.t2 8; have s9 := cellAt (i := 9) HP7.out.t2 rfl; have f9 := blk_frozen HP7.out.t2 9; have s10 := cellAt (i := 10) HP7.out.t2 rfl; have f10 := blk_frozen HP7.out.t2 10;  clear ho hi hb hk))
  have HP8 := Aside0.mk (show PS 34 w (((((w7.setCell ⟨w.heap.size, 6, none⟩ (.int .u64 xv.f0)).setCell ⟨w.heap.size, 7, none⟩ (.int .u64 xv.f1.f0)).setCell ⟨w.heap.size, 8, none⟩ (.int .i64 xv.f1.f1)).setCell ⟨w.heap.size, 9, none⟩ (.int .u64 xv.f2)).setCell ⟨w.heap.size, 10, none⟩ (.slice A7 l.length c7)) g w1.heap.size s q #[.int .i64 2, .string ⟨#[]⟩, .int .u32 y1, .int .u64 x2, .bool (bits BinOp.and IntKind.u64 x3 1 != 0), .bool (bits BinOp.and IntKind.u64 x3 2 != 0), .int .u64 xv.f0, .int .u64 xv.f1.f0, .int .i64 xv.f1.f1, .int .u64 xv.f2, .slice A7 l.length c7, .int .u64 0, .int .u64 0, .int .i64 0, .int .u64 0, .int .u64 0, .int .i64 0, .int .i64 0] from (((((HP7.out.set 6 (.int .u64 xv.f0)).set 7 (.int .u64 xv.f1.f0)).set 8 (.int .i64 xv.f1.f1)).set 9 (.int .u64 xv.f2)).set 10 (.slice A7 l.length c7)))
  have HO8 := Aside0.mk (show Kd.R k27 27 (((((w7.setCell ⟨w.heap.size, 6, none⟩ (.int .u64 xv.f0)).setCell ⟨w.heap.size, 7, none⟩ (.int .u64 xv.f1.f0)).setCell ⟨w.heap.size, 8, none⟩ (.int .i64 xv.f1.f1)).setCell ⟨w.heap.size, 9, none⟩ (.int .u64 xv.f2)).setCell ⟨w.heap.size, 10, none⟩ (.slice A7 l.length c7)) w.heap.size (fun _ => True) (.slice A7 l.length c7) l from Kd.R_mono (Kd.R_far (p := ⟨w.heap.size, 10, none⟩) (Kd.R_far (p := ⟨w.heap.size, 9, none⟩) (Kd.R_far (p := ⟨w.heap.size, 8, none⟩) (Kd.R_far (p := ⟨w.heap.size, 7, none⟩) (Kd.R_far (p := ⟨w.heap.size, 6, none⟩) (Kd.R_types HO7.out HP7.out.t2 (by decide)) (fun _ hk => hk.2) (.int .u64 xv.f0)) (fun _ hk => hk.2) (.int .u64 xv.f1.f0)) (fun _ hk => hk.2) (.int .i64 xv.f1.f1)) (fun _ hk => hk.2) (.int .u64 xv.f2)) (fun _ hk => hk.2) (.slice A7 l.length c7)) (ok' := fun _ => True) (fun _ _ => trivial))
  clear r4 s6 f6 s7 f7 s8 f8 s9 f9 s10 f10
  generalize (((((w7.setCell ⟨w.heap.size, 6, none⟩ (.int .u64 xv.f0)).setCell ⟨w.heap.size, 7, none⟩ (.int .u64 xv.f1.f0)).setCell ⟨w.heap.size, 8, none⟩ (.int .i64 xv.f1.f1)).setCell ⟨w.heap.size, 9, none⟩ (.int .u64 xv.f2)).setCell ⟨w.heap.size, 10, none⟩ (.slice A7 l.length c7)) = W8 at HP8 HO8 ⊢
  have r4 := cellAt (i := 0) HP8.out.box rfl
  have k0 := cellAt (i := 0) HP8.out.t2 rfl
  go_wp2_with (first | (go_at_call 29; (with_reducible refine (reader_end_bad g s q w _ HP8.out.rd HP8.out.bel (by have := HQ.out; omega) H5.out HS.out).mono ?_); clear r4 k0; rintro e w9 ⟨rfl, hb, hk⟩; have HRB := Aside0.mk (show _ ∧ _ ∧ Below w.heap.size w _ from ⟨hk.blk HP8.out.t2 (by have := HP8.out.gg; omega) (by simp), hk.blk HP8.out.t3 (by have := HP8.out.gg; omega) (by simp), hb⟩); clear hb hk))
  refine leaves_cons (f := 33) (args := #[.pointer (some ⟨w.heap.size, 0, none⟩), .pointer (some ⟨w.heap.size + 1, 0, none⟩)]) (by simp) (by simp [go_sem]) ?_
  refine (parseItem_catch w.heap.size (w.heap.size + 1) _ rfl 0 4 (by decide) _ HRB.out.1 HRB.out.2.1).mono ?_
  rintro e u' w'' ⟨rfl, rfl, k0, k1, hbl⟩
  have hb := hbl w HRB.out.2.2 (Nat.le_refl _) (by omega)
  exact ⟨_, results_cells2 rfl rfl rfl (run_loadVar_row (P := Try.prog) w'' w.heap.size 34 34 _ (0, 0) _ k0 Try.underlying34 rfl (by kernel_rfl)) (load_err k1), rfl, hb⟩
set_option maxHeartbeats 8000000 in
set_option maxRecDepth 100000 in
theorem pi2_good (s : ByteArray) (w : World) (hs : s.size ≤ 1000000) (h1 : 14 ≤ s.size) (hk0 : IntKind.i64.wrap (numAt s 0 1) = 2) (h2 : s.size ≤ 1024) (h3 : numAt s 13 1 ≤ 3) (h4 : recE s 14 = 0) (h5 : 14 + 26 + 25 * ((recN s 14).toNat : Int) = s.size) :
    Calls Try.prog 12 #[.string s] w fun e w' => ∃ v : Value, e = .returned (.tuple #[.agg #[.int .i64 2, .string ⟨#[]⟩, .int .u32 (IntKind.u32.wrap (numAt s 1 4)), .int .u64 (numAt s 5 8), .bool (bits BinOp.and IntKind.u64 (numAt s 13 1) 1 != 0), .bool (bits BinOp.and IntKind.u64 (numAt s 13 1) 2 != 0), .int .u64 (viewAt s 14).f0, .int .u64 (viewAt s 14).f1.f0, .int .i64 (viewAt s 14).f1.f1, .int .u64 (viewAt s 14).f2, v, .int .u64 0, .int .u64 0, .int .i64 0, .int .u64 0, .int .u64 0, .int .i64 0, .int .i64 0], .int .i64 0]) ∧ Kd.R k27 27 w' w.heap.size (fun _ => True) v (viewsAt s (recN s 14).toNat (14 + 26)) ∧ Below w.heap.size w w' := by
  obtain ⟨x0, hx0⟩ : ∃ x, x = numAt s 0 1 := ⟨_, rfl⟩
  have HX0 := Aside0.mk hx0
  have HS := Aside0.mk hs
  rw [← hx0] at hk0
  obtain ⟨x1, hx1⟩ : ∃ x, x = numAt s 1 4 := ⟨_, rfl⟩
  have HX1 := Aside0.mk hx1
  obtain ⟨y1, hy1⟩ : ∃ y, y = IntKind.u32.wrap x1 := ⟨_, rfl⟩
  have HY1 := Aside0.mk hy1
  have hyry1 : IntKind.u32.wrap x1 = y1 := hy1.symm
  obtain ⟨x2, hx2⟩ : ∃ x, x = numAt s 5 8 := ⟨_, rfl⟩
  have HX2 := Aside0.mk hx2
  obtain ⟨x3, hx3⟩ : ∃ x, x = numAt s 13 1 := ⟨_, rfl⟩
  have HX3 := Aside0.mk hx3
  rw [← hx3] at h3
  have b1 : decide (3 < x3) = false := decide_eq_false (by omega)
  obtain ⟨xv, hxv⟩ : ∃ x, x = viewAt s 14 := ⟨_, rfl⟩
  have HXV := Aside0.mk hxv
  obtain ⟨l, hl⟩ : ∃ l, l = viewsAt s (recN s 14).toNat (14 + 26) := ⟨_, rfl⟩
  have HL := Aside0.mk hl
  obtain ⟨q, hq⟩ : ∃ q, q = 14 + 26 + 25 * ((recN s 14).toNat : Int) := ⟨_, rfl⟩
  have HQ := Aside0.mk hq
  have HE := Aside0.mk h4
  rw [← hq] at h5
  have H5 := Aside0.mk h5
  rw [← hx1, ← hx2, ← hx3, ← hy1]
  rw [← hxv, ← hl]
  have HN := Aside0.mk (show 14 ≤ s.size ∧ s.size ≤ 1024 from ⟨h1, h2⟩)
  have b0 : decide (1024 < (s.size : Int)) = false := decide_eq_false (by omega)
  clear hs h1 h2 hx0 hx1 hx2 hx3 hy1 h3 h4 h5 hxv hl hq
  have hmf : ∀ (fn : Fn) (first cap : Array Value) (w : World), (Instr.makeFunc fn first cap).run Try.prog w = .ok (.func fn first cap) w := fun _ _ _ _ => rfl
  go_enter_defers Try.func12, Try.ntmps12
  go_upto_region 4 with (first | (go_at_call 25; (with_reducible refine (num_New.calls s s 0 (iW w) _ (Below.refl _ _) rfl).mono ?_); rintro e w1 ⟨g, rfl, hi, hb, _⟩; have HP0 := Aside0.mk (newP (w := w) 34 (iW_b0 w) (iW_b1 w) (by simp) hi (show Below w.heap.size w w1 from (below_alloc (below_alloc (Below.refl _ _) _) _).trans (hb.mono (by simp; omega))) hb); have r4 := cellAt (i := 0) HP0.out.box rfl; clear hi hb) | (go_at_call 27; (with_reducible refine (reader_num g s 0 1 w _ HP0.out.rd HP0.out.bel (by omega) (by have := HN.out; omega) (by omega) (by omega) HS.out).mono ?_); clear r4; rintro e w2 ⟨rfl, hi, hb, hk⟩; rw [← HX0.out]; have HP1 := Aside0.mk (HP0.out.call (show IsS93 w w2 g s 1 by simpa using hi) hb hk); have r4 := cellAt (i := 0) HP1.out.box rfl; have k0 := cellAt (i := 0) HP1.out.t2 rfl; have f0 := blk_frozen HP1.out.t2 0; clear hi hb hk))
  have HP2 := Aside0.mk (show PS 34 w (w2.setCell ⟨w.heap.size, 0, none⟩ (.int .i64 2)) g w1.heap.size s 1 #[.int .i64 2, .string ⟨#[]⟩, .int .u32 0, .int .u64 0, .bool false, .bool false, .int .u64 0, .int .u64 0, .int .i64 0, .int .u64 0, .slice none 0 0, .int .u64 0, .int .u64 0, .int .i64 0, .int .u64 0, .int .u64 0, .int .i64 0, .int .i64 0] from HP1.out.set 0 _)
  clear r4 k0 f0
  generalize w2.setCell ⟨w.heap.size, 0, none⟩ (.int .i64 2) = W2 at HP2 ⊢
  have r4 := cellAt (i := 0) HP2.out.box rfl
  have k0 := cellAt (i := 0) HP2.out.t2 rfl
  go_wp2_with (first | (go_at_call 26; (with_reducible refine (bad_no _ _).mono ?_); rintro e w_ ⟨rfl, rfl⟩))
  refine start_ (n := 11) (S := fun w' => w'.cell? ⟨w1.heap.size, 0, none⟩ = some (.pointer (some ⟨g, 0, none⟩))) (ds := []) #[false, false, false, false, false, false, false, false, false, false, false] (by kernel_rfl) rfl rfl (show _ = _ from r4) (fun hHeld => ?_)
  have HPd := Aside0.mk (HP2.out.below (W1 := W2.drew) (below_drew (Below.refl _ _)))
  generalize W2.drew = wd at HPd hHeld ⊢
  refine pure_ (i := 0) (N := some 32) (v := ?_) (a' := ?_) #[true, false, false, false, false, false, false, false, false, false, false] rfl rfl (by kernel_rfl) (fun c a w h => hq12 32 (by decide) (by decide) _ c a w h) (Or.inl ⟨by rfl, ?_⟩) ?_ ?_
  rotate_left
  · intro w'
    go_simp
    with_reducible rfl
  rotate_left
  · simp only [Act.put, List.setIfInBounds_toArray, List.set_cons_zero, List.set_cons_succ, i64_w, i32_w]
    rfl
  refine take_ (i := 1) (N := some 33) (v := ?_) (a' := ?_) #[true, true, false, false, false, false, false, false, false, false, false] rfl rfl (by kernel_rfl) (fun c a w h => hq12 33 (by decide) (by decide) _ c a w h) (Or.inl ⟨by rfl, ?_⟩) hHeld ?_ ?_
  rotate_left
  · rintro w' s0
    go_simp
    with_reducible rfl
  rotate_left
  · simp only [Act.put, List.setIfInBounds_toArray, List.set_cons_zero, List.set_cons_succ, i64_w, i32_w]
    rfl
  refine pure_ (i := 4) (N := some 36) (v := ?_) (a' := ?_) #[true, true, false, false, true, false, false, false, false, false, false] rfl rfl (by kernel_rfl) (fun c a w h => hq12 36 (by decide) (by decide) _ c a w h) (Or.inl ⟨by rfl, ?_⟩) ?_ ?_
  rotate_left
  · intro w'
    go_simp
    with_reducible rfl
  rotate_left
  · simp only [Act.put, List.setIfInBounds_toArray, List.set_cons_zero, List.set_cons_succ, i64_w, i32_w]
    rfl
  refine take_ (i := 5) (N := some 37) (v := ?_) (a' := ?_) #[true, true, false, false, true, true, false, false, false, false, false] rfl rfl (by kernel_rfl) (fun c a w h => hq12 37 (by decide) (by decide) _ c a w h) (Or.inl ⟨by rfl, ?_⟩) hHeld ?_ ?_
  rotate_left
  · rintro w' s0
    go_simp
    with_reducible rfl
  rotate_left
  · simp only [Act.put, List.setIfInBounds_toArray, List.set_cons_zero, List.set_cons_succ, i64_w, i32_w]
    rfl
  refine one_ (i := 2) (N := some 34) #[true, true, true, false, true, true, false, false, false, false, false] rfl rfl (by kernel_rfl) (by decide) (fun K hK => ?_)
  refine goes_ Try.func27 (by kernel_rfl) rfl #[.pointer (some ⟨g, 0, none⟩), .int .i64 4] (by rfl) rfl rfl (by (try simp only [List.map_toArray, List.map_cons, List.map_nil]); first | done | rfl) ?_
  with_reducible refine (reader_num g s 1 4 w _ HPd.out.rd HPd.out.bel (by omega) (by have := HN.out; omega) (by omega) (by omega) HS.out).mono ?_
  rintro e wd0 ⟨rfl, hi, hb, hk⟩
  rw [← HX1.out]
  refine ⟨_, rfl, ?_⟩
  have HPd0 := Aside0.mk (HPd.out.call (show IsS93 w wd0 g s 5 by simpa using hi) hb hk)
  clear hi hb hk
  refine hK.out _ _ (cellAt (i := 0) HPd0.out.box rfl) (fun hHeld => ?_)
  clear hK K
  refine norm_ (a' := ?_) ?_ ?_
  rotate_left
  · show Act.put _ (some 34) _ = _
    simp only [Act.put, List.setIfInBounds_toArray, List.set_cons_zero, List.set_cons_succ, i64_w, i32_w]
    rfl
  refine pure_ (i := 3) (N := some 35) (v := ?_) (a' := ?_) #[true, true, true, true, true, true, false, false, false, false, false] rfl rfl (by kernel_rfl) (fun c a w h => hq12 35 (by decide) (by decide) _ c a w h) (Or.inl ⟨by rfl, ?_⟩) ?_ ?_
  rotate_left
  · intro w'
    go_simp
    with_reducible rfl
  rotate_left
  · simp only [Act.put, List.setIfInBounds_toArray, List.set_cons_zero, List.set_cons_succ, i64_w, i32_w]
    rfl
  refine pure_ (i := 7) (N := some 39) (v := ?_) (a' := ?_) #[true, true, true, true, true, true, false, true, false, false, false] rfl rfl (by kernel_rfl) (fun c a w h => hq12 39 (by decide) (by decide) _ c a w h) (Or.inl ⟨by rfl, ?_⟩) ?_ ?_
  rotate_left
  · intro w'
    go_simp
    with_reducible rfl
  rotate_left
  · simp only [Act.put, List.setIfInBounds_toArray, List.set_cons_zero, List.set_cons_succ, i64_w, i32_w]
    rfl
  refine one_ (i := 6) (N := some 38) #[true, true, true, true, true, true, true, true, false, false, false] rfl rfl (by kernel_rfl) (by decide) (fun K hK => ?_)
  refine goes_ Try.func27 (by kernel_rfl) rfl #[.pointer (some ⟨g, 0, none⟩), .int .i64 8] (by rfl) rfl rfl (by (try simp only [List.map_toArray, List.map_cons, List.map_nil]); first | done | rfl) ?_
  with_reducible refine (reader_num g s 5 8 w _ HPd0.out.rd HPd0.out.bel (by omega) (by have := HN.out; omega) (by omega) (by omega) HS.out).mono ?_
  rintro e wd1 ⟨rfl, hi, hb, hk⟩
  rw [← HX2.out]
  refine ⟨_, rfl, ?_⟩
  have HPd1 := Aside0.mk (HPd0.out.call (show IsS93 w wd1 g s 13 by simpa using hi) hb hk)
  clear hi hb hk
  refine hK.out _ _ (cellAt (i := 0) HPd1.out.box rfl) (fun hHeld => ?_)
  clear hK K
  refine norm_ (a' := ?_) ?_ ?_
  rotate_left
  · show Act.put _ (some 38) _ = _
    simp only [Act.put, List.setIfInBounds_toArray, List.set_cons_zero, List.set_cons_succ, i64_w, i32_w]
    rfl
  have s2 := cellAt (i := 2) HPd1.out.t2 rfl
  have f2 := blk_frozen HPd1.out.t2 2
  refine one_ (i := 8) (N := none) #[true, true, true, true, true, true, true, true, true, false, false] rfl rfl (by kernel_rfl) (by decide) (fun K hK => ?_)
  refine skip_ (w1 := ?_) (by rfl) rfl ?_ ?_
  rotate_left
  · go_simp
    rfl
  have HPs0 := Aside0.mk (HPd1.out.set 2 (.int .u32 y1))
  refine hK.out _ _ (cellAt (i := 0) HPs0.out.box rfl) (fun hHeld => ?_)
  clear hK K s2 f2
  generalize wd1.setCell ⟨w.heap.size, 2, none⟩ (.int .u32 y1) = ws0 at HPs0 hHeld ⊢
  refine pure_ (i := 9) (N := some 40) (v := ?_) (a' := ?_) #[true, true, true, true, true, true, true, true, true, true, false] rfl rfl (by kernel_rfl) (fun c a w h => hq12 40 (by decide) (by decide) _ c a w h) (Or.inl ⟨by rfl, ?_⟩) ?_ ?_
  rotate_left
  · intro w'
    go_simp
    with_reducible rfl
  rotate_left
  · simp only [Act.put, List.setIfInBounds_toArray, List.set_cons_zero, List.set_cons_succ, i64_w, i32_w]
    rfl
  have s3 := cellAt (i := 3) HPs0.out.t2 rfl
  have f3 := blk_frozen HPs0.out.t2 3
  refine one_ (i := 10) (N := none) #[true, true, true, true, true, true, true, true, true, true, true] rfl rfl (by kernel_rfl) (by decide) (fun K hK => ?_)
  refine skip_ (w1 := ?_) (by rfl) rfl ?_ ?_
  rotate_left
  · go_simp
    rfl
  have HPs1 := Aside0.mk (HPs0.out.set 3 (.int .u64 x2))
  refine hK.out _ _ (cellAt (i := 0) HPs1.out.box rfl) (fun hHeld => ?_)
  clear hK K s3 f3
  generalize ws0.setCell ⟨w.heap.size, 3, none⟩ (.int .u64 x2) = ws1 at HPs1 hHeld ⊢
  refine done_ (by kernel_rfl) ?_
  clear r4 k0
  have HP3 := Aside0.mk (show PS 34 w ws1 g w1.heap.size s 13 #[.int .i64 2, .string ⟨#[]⟩, .int .u32 y1, .int .u64 x2, .bool false, .bool false, .int .u64 0, .int .u64 0, .int .i64 0, .int .u64 0, .slice none 0 0, .int .u64 0, .int .u64 0, .int .i64 0, .int .u64 0, .int .u64 0, .int .i64 0, .int .i64 0] from HPs1.out)
  have r4 := cellAt (i := 0) HP3.out.box rfl
  clear hHeld
  go_upto_region 12 with (first | (go_at_call 27; (with_reducible refine (reader_num g s 13 1 w _ HP3.out.rd HP3.out.bel (by omega) (by have := HN.out; omega) (by omega) (by omega) HS.out).mono ?_); clear r4; rintro e w3 ⟨rfl, hi, hb, hk⟩; rw [← HX3.out]; have HP5 := Aside0.mk (HP3.out.call (show IsS93 w w3 g s 14 by simpa using hi) hb hk); have r4 := cellAt (i := 0) HP5.out.box rfl; have s4 := cellAt (i := 4) HP5.out.t2 rfl; have f4 := blk_frozen HP5.out.t2 4; have s5 := cellAt (i := 5) HP5.out.t2 rfl; have f5 := blk_frozen HP5.out.t2 5; clear hi hb hk) | (go_at_call 26; (with_reducible refine (bad_no _ _).mono ?_); rintro e w_ ⟨rfl, rfl⟩))
  have HP6 := Aside0.mk (show PS 34 w ((w3.setCell ⟨w.heap.size, 4, none⟩ (.bool (bits BinOp.and IntKind.u64 x3 1 != 0))).setCell ⟨w.heap.size, 5, none⟩ (.bool (bits BinOp.and IntKind.u64 x3 2 != 0))) g w1.heap.size s 14 #[.int .i64 2, .string ⟨#[]⟩, .int .u32 y1, .int .u64 x2, .bool (bits BinOp.and IntKind.u64 x3 1 != 0), .bool (bits BinOp.and IntKind.u64 x3 2 != 0), .int .u64 0, .int .u64 0, .int .i64 0, .int .u64 0, .slice none 0 0, .int .u64 0, .int .u64 0, .int .i64 0, .int .u64 0, .int .u64 0, .int .i64 0, .int .i64 0] from ((HP5.out.set 4 (.bool (bits BinOp.and IntKind.u64 x3 1 != 0))).set 5 (.bool (bits BinOp.and IntKind.u64 x3 2 != 0))))
  clear r4 s4 f4 s5 f5
  generalize ((w3.setCell ⟨w.heap.size, 4, none⟩ (.bool (bits BinOp.and IntKind.u64 x3 1 != 0))).setCell ⟨w.heap.size, 5, none⟩ (.bool (bits BinOp.and IntKind.u64 x3 2 != 0))) = W6 at HP6 ⊢
  have r4 := cellAt (i := 0) HP6.out.box rfl
  go_upto_region 17 with ((go_at_call 28; (with_reducible refine (reader_record_good g s 14 w _ HP6.out.rd HP6.out.bel (by omega) HS.out HE.out xv HXV.out l HL.out q HQ.out).mono ?_); clear r4; rintro e w7 ⟨v7, rfl, ho, hi, hb, hk⟩; obtain ⟨A7, c7, rfl⟩ := Kd.R_slice ho; have HP7 := Aside0.mk (HP6.out.call hi hb hk); have HO7 := Aside0.mk (Kd.R_lower ho HP6.out.bel.size); have r4 := cellAt (i := 0) HP7.out.box rfl; have s6 := cellAt (i := 6) HP7.out.t2 rfl; have f6 := blk_frozen HP7.out.t2 6; have s7 := cellAt (i := 7) HP7.out.t2 rfl; have f7 := blk_frozen HP7.out.t2 7; have s8 := cellAt (i := 8) HP7.out.t2 rfl; have f8 := blk_frozen HP7.out.t2 8; have s9 := cellAt (i := 9) HP7.out.t2 rfl; have f9 := blk_frozen HP7.out.t2 9; have s10 := cellAt (i := 10) HP7.out.t2 rfl; have f10 := blk_frozen HP7.out.t2 10;  clear ho hi hb hk))
  have HP8 := Aside0.mk (show PS 34 w (((((w7.setCell ⟨w.heap.size, 6, none⟩ (.int .u64 xv.f0)).setCell ⟨w.heap.size, 7, none⟩ (.int .u64 xv.f1.f0)).setCell ⟨w.heap.size, 8, none⟩ (.int .i64 xv.f1.f1)).setCell ⟨w.heap.size, 9, none⟩ (.int .u64 xv.f2)).setCell ⟨w.heap.size, 10, none⟩ (.slice A7 l.length c7)) g w1.heap.size s q #[.int .i64 2, .string ⟨#[]⟩, .int .u32 y1, .int .u64 x2, .bool (bits BinOp.and IntKind.u64 x3 1 != 0), .bool (bits BinOp.and IntKind.u64 x3 2 != 0), .int .u64 xv.f0, .int .u64 xv.f1.f0, .int .i64 xv.f1.f1, .int .u64 xv.f2, .slice A7 l.length c7, .int .u64 0, .int .u64 0, .int .i64 0, .int .u64 0, .int .u64 0, .int .i64 0, .int .i64 0] from (((((HP7.out.set 6 (.int .u64 xv.f0)).set 7 (.int .u64 xv.f1.f0)).set 8 (.int .i64 xv.f1.f1)).set 9 (.int .u64 xv.f2)).set 10 (.slice A7 l.length c7)))
  have HO8 := Aside0.mk (show Kd.R k27 27 (((((w7.setCell ⟨w.heap.size, 6, none⟩ (.int .u64 xv.f0)).setCell ⟨w.heap.size, 7, none⟩ (.int .u64 xv.f1.f0)).setCell ⟨w.heap.size, 8, none⟩ (.int .i64 xv.f1.f1)).setCell ⟨w.heap.size, 9, none⟩ (.int .u64 xv.f2)).setCell ⟨w.heap.size, 10, none⟩ (.slice A7 l.length c7)) w.heap.size (fun _ => True) (.slice A7 l.length c7) l from Kd.R_mono (Kd.R_far (p := ⟨w.heap.size, 10, none⟩) (Kd.R_far (p := ⟨w.heap.size, 9, none⟩) (Kd.R_far (p := ⟨w.heap.size, 8, none⟩) (Kd.R_far (p := ⟨w.heap.size, 7, none⟩) (Kd.R_far (p := ⟨w.heap.size, 6, none⟩) (Kd.R_types HO7.out HP7.out.t2 (by decide)) (fun _ hk => hk.2) (.int .u64 xv.f0)) (fun _ hk => hk.2) (.int .u64 xv.f1.f0)) (fun _ hk => hk.2) (.int .i64 xv.f1.f1)) (fun _ hk => hk.2) (.int .u64 xv.f2)) (fun _ hk => hk.2) (.slice A7 l.length c7)) (ok' := fun _ => True) (fun _ _ => trivial))
  clear r4 s6 f6 s7 f7 s8 f8 s9 f9 s10 f10
  generalize (((((w7.setCell ⟨w.heap.size, 6, none⟩ (.int .u64 xv.f0)).setCell ⟨w.heap.size, 7, none⟩ (.int .u64 xv.f1.f0)).setCell ⟨w.heap.size, 8, none⟩ (.int .i64 xv.f1.f1)).setCell ⟨w.heap.size, 9, none⟩ (.int .u64 xv.f2)).setCell ⟨w.heap.size, 10, none⟩ (.slice A7 l.length c7)) = W8 at HP8 HO8 ⊢
  have r4 := cellAt (i := 0) HP8.out.box rfl
  have k0 := cellAt (i := 0) HP8.out.t2 rfl
  go_wp2_with (first | (go_at_call 29; (with_reducible refine (reader_end g s (q) w _ HP8.out.rd HP8.out.bel (by have := HQ.out; omega) H5.out HS.out).mono ?_); clear r4; rintro e w9 ⟨rfl, hb, hk⟩; have HT9 := Aside0.mk (hk.blk HP8.out.t2 (by have := HP8.out.gg; omega) (by simp)); have HU9 := Aside0.mk (hk.blk HP8.out.t3 (by have := HP8.out.gg; omega) (by simp)); have HB9 := Aside0.mk hb; have HO9 := Aside0.mk (Kd.R_mono (Kd.R_keep (Kd.R_types HO8.out HP8.out.rd.1 (by decide)) hk (fun _ h => h.2)) (ok' := fun _ => True) (fun _ _ => trivial)); clear hb hk) | ((with_reducible refine gate_dst (N := 96) rfl ?_); refine load_event rfl (.tmp 2) 34 rfl rfl (load34 HT9.out) ?_) | ((with_reducible refine gate_store (t := 34) (p := 2) rfl ?_); refine store_row_event rfl (ty := 34) (p := 2) rfl rfl w.heap.size #[.int .i64 2, .string ⟨#[]⟩, .int .u32 y1, .int .u64 x2, .bool (bits BinOp.and IntKind.u64 x3 1 != 0), .bool (bits BinOp.and IntKind.u64 x3 2 != 0), .int .u64 xv.f0, .int .u64 xv.f1.f0, .int .i64 xv.f1.f1, .int .u64 xv.f2, .slice A7 l.length c7, .int .u64 0, .int .u64 0, .int .i64 0, .int .u64 0, .int .u64 0, .int .i64 0, .int .i64 0] rfl rfl 34 #[.int .i64 2, .string ⟨#[]⟩, .int .u32 y1, .int .u64 x2, .bool (bits BinOp.and IntKind.u64 x3 1 != 0), .bool (bits BinOp.and IntKind.u64 x3 2 != 0), .int .u64 xv.f0, .int .u64 xv.f1.f0, .int .i64 xv.f1.f1, .int .u64 xv.f2, .slice A7 l.length c7, .int .u64 0, .int .u64 0, .int .i64 0, .int .u64 0, .int .u64 0, .int .i64 0, .int .i64 0] HT9.out (by kernel_rfl) rfl (by simp [Value.oneCell']) ?_; intro w10 h10; have P10 := Aside0.mk h10; have K3 := Aside0.mk ((h10.far (w.heap.size + 1) (by omega)).trans HU9.out); have d0 := cellAt (i := 0) K3.out rfl; have e0 := blk_frozen K3.out 0; clear h10))
  refine leaves_cons (f := 33) (args := #[.pointer (some ⟨w.heap.size, 0, none⟩), .pointer (some ⟨w.heap.size + 1, 0, none⟩)]) (by simp) (by simp [go_sem]) ?_
  refine (parseItem_idle w.heap.size (w.heap.size + 1) _).mono ?_
  rintro e u' w'' ⟨rfl, rfl, rfl⟩
  have k2 := blk_far (p := ⟨w.heap.size + 1, 0, none⟩) P10.out.at_ (show w.heap.size ≠ w.heap.size + 1 by omega) (.int .i64 0)
  refine ⟨_, results_cells2 rfl rfl rfl (run_loadVar_row (P := Try.prog) _ w.heap.size 34 34 _ (0, 0) _ k2 Try.underlying34 rfl (by kernel_rfl)) (load_err (blk_set K3.out 0 _)), ?_⟩
  have hbe := below_set (g := w.heap.size + 1) (j := 0) (v := .int .i64 0) (P10.out.bel w HB9.out (Nat.le_refl _)) (show w.heap.size ≤ w.heap.size + 1 by omega)
  have hp := Kd.R_mono (Kd.R_keep (Kd.R_types HO9.out HT9.out (by decide)) (show KeepBut w9 w10 w.heap.size none from ⟨Nat.le_of_eq P10.out.size.symm, fun i _ hi _ => P10.out.far i hi⟩) (fun _ h => h.2)) (ok' := fun _ => True) (fun _ _ => trivial)
  exact ⟨.slice A7 l.length c7, rfl, Kd.R_mono (Kd.R_far (p := ⟨w.heap.size + 1, 0, none⟩) (Kd.R_types hp K3.out (by decide)) (fun _ hk => hk.2) (.int .i64 0)) (fun _ _ => trivial), hbe⟩
end Go.Proofs.Ytlkemknhmfjdpaa.P
/- ParseItem's contract, whole. -/
namespace Go.Proofs.Ytlkemknhmfjdpaa.P
open Go.RowKit Go.Proofs.YtlkemknhmfjdpaaW.PrintWords Go.Proofs.YtlkemknhmfjdpaaW.PrintLast Go.Proofs.YtlkemknhmfjdpaaW.PrintMore
set_option linter.unusedVariables false
set_option linter.unusedSimpArgs false

/-- The kind that is read. -/
def kindN (s : ByteArray) : Int := IntKind.i64.wrap (numAt s 0 1)
/-- ParseItem's error; 0: none. -/
def itemE (s : ByteArray) : Int :=
  if s.size < 1 then 2 else if kindN s < 1 ∨ 4 < kindN s then 10 else if 1024 < s.size then 3
  else if kindN s = 1 then 0
  else if kindN s = 2 then (if s.size < 14 then 2 else if 3 < numAt s 13 1 then 1 else if recE s 14 ≠ 0 then recE s 14 else if 14 + 26 + 25 * ((recN s 14).toNat : Int) < s.size then 4 else 0)
  else if kindN s = 3 then (if viewE s 1 ≠ 0 then viewE s 1 else if 26 < s.size then 4 else 0)
  else if s.size < 13 then 2 else 0
abbrev ItemT := Int × ByteArray × Int × Int × Bool × Bool × Int × Int × Int × Int × List S27 × Int × Int × Int × Int × Int × Int × Int × Int
/-- The item of a row of bytes that is right. -/
def itemAt (s : ByteArray) : ItemT :=
  if kindN s = 1 then (1, txtAt s 1, 0, 0, false, false, 0, 0, 0, 0, [], 0, 0, 0, 0, 0, 0, 0, 0)
  else if kindN s = 2 then (2, ⟨#[]⟩, IntKind.u32.wrap (numAt s 1 4), numAt s 5 8, bits BinOp.and IntKind.u64 (numAt s 13 1) 1 != 0, bits BinOp.and IntKind.u64 (numAt s 13 1) 2 != 0, (viewAt s 14).f0, (viewAt s 14).f1.f0, (viewAt s 14).f1.f1, (viewAt s 14).f2, viewsAt s (recN s 14).toNat (14 + 26), 0, 0, 0, 0, 0, 0, 0, 0)
  else if kindN s = 3 then (3, ⟨#[]⟩, 0, 0, false, false, 0, 0, 0, 0, [], (viewAt s 1).f0, (viewAt s 1).f1.f0, (viewAt s 1).f1.f1, (viewAt s 1).f2, 0, 0, 0, 0)
  else (4, txtAt s 13, 0, 0, false, false, 0, 0, 0, 0, [], 0, 0, 0, 0, numAt s 1 8, IntKind.i64.wrap (numAt s 9 2), IntKind.i64.wrap (numAt s 11 2), 0)
def log_ParseItem.f (a0 : ByteArray) : Option ItemT :=
  if a0.size ≤ 1000000 then
    if itemE a0 = 0 then some (itemAt a0)
    else some (0, ⟨#[]⟩, 0, 0, false, false, 0, 0, 0, 0, [], 0, 0, 0, 0, 0, 0, 0, itemE a0)
  else none
theorem log_ParseItem.calls (a0 : ByteArray) (r1 : Int) (r2 : ByteArray) (r3 r4 : Int) (r5 r6 : Bool) (r7 r8 r9 r10 : Int) (r11 : List S27) (r12 r13 r14 r15 r16 r17 r18 r19 : Int) (w : World) (h : log_ParseItem.f a0 = some (r1, r2, r3, r4, r5, r6, r7, r8, r9, r10, r11, r12, r13, r14, r15, r16, r17, r18, r19)) :
    Calls Try.prog 12 #[.string a0] w fun e w' => ∃ v10_ : Value, e = .returned (.tuple #[.agg #[.int .i64 r1, .string r2, .int .u32 r3, .int .u64 r4, .bool r5, .bool r6, .int .u64 r7, .int .u64 r8, .int .i64 r9, .int .u64 r10, v10_, .int .u64 r12, .int .u64 r13, .int .i64 r14, .int .u64 r15, .int .u64 r16, .int .i64 r17, .int .i64 r18], .int .i64 r19]) ∧ Kd.R k27 27 w' w.heap.size (fun _ => True) v10_ r11 ∧ Below w.heap.size w w' := by
  unfold log_ParseItem.f at h
  by_cases hs : a0.size ≤ 1000000
  rotate_left
  · rw [if_neg hs] at h
    cases h
  rw [if_pos hs] at h
  have bad : ∀ c : Int, itemE a0 = c → c ≠ 0 → (Calls Try.prog 12 #[.string a0] w fun e w' => e = .returned (.tuple #[.agg #[.int .i64 0, .string ⟨#[]⟩, .int .u32 0, .int .u64 0, .bool false, .bool false, .int .u64 0, .int .u64 0, .int .i64 0, .int .u64 0, .slice none 0 0, .int .u64 0, .int .u64 0, .int .i64 0, .int .u64 0, .int .u64 0, .int .i64 0, .int .i64 0], .int .i64 c]) ∧ Below w.heap.size w w') →
      Calls Try.prog 12 #[.string a0] w fun e w' => ∃ v10_ : Value, e = .returned (.tuple #[.agg #[.int .i64 r1, .string r2, .int .u32 r3, .int .u64 r4, .bool r5, .bool r6, .int .u64 r7, .int .u64 r8, .int .i64 r9, .int .u64 r10, v10_, .int .u64 r12, .int .u64 r13, .int .i64 r14, .int .u64 r15, .int .u64 r16, .int .i64 r17, .int .i64 r18], .int .i64 r19]) ∧ Kd.R k27 27 w' w.heap.size (fun _ => True) v10_ r11 ∧ Below w.heap.size w w' := by
    intro c hc h0 hcall
    rw [hc, if_neg h0] at h
    simp only [Option.some.injEq, Prod.mk.injEq] at h
    obtain ⟨rfl, rfl, rfl, rfl, rfl, rfl, rfl, rfl, rfl, rfl, rfl, rfl, rfl, rfl, rfl, rfl, rfl, rfl, rfl⟩ := h
    exact hcall.mono fun e w' hh => ⟨_, hh.1, Kd.R_nil _ _ _ _ _, hh.2⟩
  have good : itemE a0 = 0 → itemAt a0 = (r1, r2, r3, r4, r5, r6, r7, r8, r9, r10, r11, r12, r13, r14, r15, r16, r17, r18, r19) := by
    intro h0
    rw [if_pos h0] at h
    exact Option.some.inj h
  by_cases d1 : a0.size < 1
  · exact bad 2 (by rw [itemE, if_pos d1]) (by decide) (item_short1 a0 w hs d1)
  by_cases d2 : kindN a0 < 1 ∨ 4 < kindN a0
  · refine bad 10 (by rw [itemE, if_neg d1, if_pos d2]) (by decide) ?_
    rcases d2 with d2 | d2
    · exact item_lo a0 w hs (kindN a0) (by omega) rfl d2
    · exact item_hi a0 w hs (kindN a0) (by omega) rfl d2
  by_cases d3 : 1024 < a0.size
  · exact bad 3 (by rw [itemE, if_neg d1, if_neg d2, if_pos d3]) (by decide) (item_over a0 w hs (kindN a0) (by omega) rfl (by omega) (by omega) d3)
  have e0 : itemE a0 = if kindN a0 = 1 then 0
      else if kindN a0 = 2 then (if a0.size < 14 then 2 else if 3 < numAt a0 13 1 then 1 else if recE a0 14 ≠ 0 then recE a0 14 else if 14 + 26 + 25 * ((recN a0 14).toNat : Int) < a0.size then 4 else 0)
      else if kindN a0 = 3 then (if viewE a0 1 ≠ 0 then viewE a0 1 else if 26 < a0.size then 4 else 0)
      else if a0.size < 13 then 2 else 0 := by rw [itemE, if_neg d1, if_neg d2, if_neg d3]
  by_cases k1 : kindN a0 = 1
  · have hg := good (by rw [e0, if_pos k1])
    rw [itemAt, if_pos k1] at hg
    simp only [Prod.mk.injEq] at hg
    obtain ⟨rfl, rfl, rfl, rfl, rfl, rfl, rfl, rfl, rfl, rfl, rfl, rfl, rfl, rfl, rfl, rfl, rfl, rfl, rfl⟩ := hg
    exact (item1_parse a0 w hs (by omega) k1 (by omega)).mono fun e w' hh => ⟨_, hh.1, Kd.R_nil _ _ _ _ _, hh.2⟩
  rw [if_neg k1] at e0
  by_cases k2 : kindN a0 = 2
  · rw [if_pos k2] at e0
    by_cases c1 : a0.size < 14
    · rw [if_pos c1] at e0
      refine bad 2 e0 (by decide) ?_
      by_cases c2 : a0.size < 5
      · exact pi2_short1 a0 w hs (by omega) k2 c2
      by_cases c3 : a0.size < 13
      · exact pi2_short2 a0 w hs (by omega) k2 c3
      · exact pi2_short3 a0 w hs (by omega) k2 (by omega)
    rw [if_neg c1] at e0
    by_cases c2 : 3 < numAt a0 13 1
    · rw [if_pos c2] at e0
      exact bad 1 e0 (by decide) (pi2_flags a0 w hs (by omega) k2 (by omega) c2)
    rw [if_neg c2] at e0
    by_cases c3 : recE a0 14 ≠ 0
    · rw [if_pos c3] at e0
      exact bad _ e0 c3 (pi2_rec a0 w hs (by omega) k2 (by omega) _ (by omega) rfl c3)
    rw [if_neg c3] at e0
    have c3' : recE a0 14 = 0 := Classical.byContradiction c3
    by_cases c4 : 14 + 26 + 25 * ((recN a0 14).toNat : Int) < a0.size
    · rw [if_pos c4] at e0
      exact bad 4 e0 (by decide) (pi2_end a0 w hs (by omega) k2 (by omega) (by omega) c3' c4)
    rw [if_neg c4] at e0
    have hg := good e0
    rw [itemAt, if_neg k1, if_pos k2] at hg
    simp only [Prod.mk.injEq] at hg
    obtain ⟨rfl, rfl, rfl, rfl, rfl, rfl, rfl, rfl, rfl, rfl, rfl, rfl, rfl, rfl, rfl, rfl, rfl, rfl, rfl⟩ := hg
    exact pi2_good a0 w hs (by omega) k2 (by omega) (by omega) c3' (by have := recE_end c3'; omega)
  rw [if_neg k2] at e0
  by_cases k3 : kindN a0 = 3
  · rw [if_pos k3] at e0
    by_cases c1 : viewE a0 1 ≠ 0
    · rw [if_pos c1] at e0
      exact bad _ e0 c1 (pi3_bad a0 w hs _ (by omega) k3 (by omega) rfl c1)
    rw [if_neg c1] at e0
    have c1' : viewE a0 1 = 0 := Classical.byContradiction c1
    by_cases c2 : 26 < a0.size
    · rw [if_pos c2] at e0
      exact bad 4 e0 (by decide) (pi3_end a0 w hs (by omega) k3 (by omega) c1' c2)
    rw [if_neg c2] at e0
    have hg := good e0
    rw [itemAt, if_neg k1, if_neg k2, if_pos k3] at hg
    simp only [Prod.mk.injEq] at hg
    obtain ⟨rfl, rfl, rfl, rfl, rfl, rfl, rfl, rfl, rfl, rfl, rfl, rfl, rfl, rfl, rfl, rfl, rfl, rfl, rfl⟩ := hg
    exact (pi3_good a0 w hs (by omega) k3 (by omega) c1' (by have := (viewE_zero c1').1; omega)).mono fun e w' hh => ⟨_, hh.1, Kd.R_nil _ _ _ _ _, hh.2⟩
  rw [if_neg k3] at e0
  have k4 : kindN a0 = 4 := by omega
  by_cases c1 : a0.size < 13
  · rw [if_pos c1] at e0
    refine bad 2 e0 (by decide) ?_
    by_cases c2 : a0.size < 9
    · exact pi4_short1 a0 w hs (by omega) k4 c2
    by_cases c3 : a0.size < 11
    · exact pi4_short2 a0 w hs (by omega) k4 c3
    · exact pi4_short3 a0 w hs (by omega) k4 c1
  rw [if_neg c1] at e0
  have hg := good e0
  rw [itemAt, if_neg k1, if_neg k2, if_neg k3] at hg
  simp only [Prod.mk.injEq] at hg
  obtain ⟨rfl, rfl, rfl, rfl, rfl, rfl, rfl, rfl, rfl, rfl, rfl, rfl, rfl, rfl, rfl, rfl, rfl, rfl, rfl⟩ := hg
  exact (pi4_good a0 w hs (by omega) k4 (by omega)).mono fun e w' hh => ⟨_, hh.1, Kd.R_nil _ _ _ _ _, hh.2⟩
end Go.Proofs.Ytlkemknhmfjdpaa.P
