import Derived.Test.YtlkemknhmfjdpaaHandA1
/- ParseItem, by hand. -/
namespace Go.Proofs.Ytlkemknhmfjdpaa.P
open Go.RowKit Go.Proofs.YtlkemknhmfjdpaaW.PrintWords Go.Proofs.YtlkemknhmfjdpaaW.PrintLast Go.Proofs.YtlkemknhmfjdpaaW.PrintMore
attribute [local go_sem] max2_int min2_int max_two min_two max_three min_three max_four min_four
set_option linter.unusedVariables false
set_option linter.unusedSimpArgs false

set_option maxHeartbeats 8000000 in
set_option maxRecDepth 100000 in
theorem pi2_short1 (s : ByteArray) (w : World) (hs : s.size ≤ 1000000) (h1 : 1 ≤ s.size) (hk0 : IntKind.i64.wrap (numAt s 0 1) = 2) (h2 : s.size < 5) :
    Calls Try.prog 12 #[.string s] w fun e w' => e = .returned (.tuple #[.agg #[.int .i64 0, .string ⟨#[]⟩, .int .u32 0, .int .u64 0, .bool false, .bool false, .int .u64 0, .int .u64 0, .int .i64 0, .int .u64 0, .slice none 0 0, .int .u64 0, .int .u64 0, .int .i64 0, .int .u64 0, .int .u64 0, .int .i64 0, .int .i64 0], .int .i64 2]) ∧ Below w.heap.size w w' := by
  obtain ⟨x0, hx0⟩ : ∃ x, x = numAt s 0 1 := ⟨_, rfl⟩
  have HX0 := Aside0.mk hx0
  have HS := Aside0.mk hs
  rw [← hx0] at hk0
  have HN := Aside0.mk (show 1 ≤ s.size ∧ s.size < 5 from ⟨h1, h2⟩)
  have b0 : decide (1024 < (s.size : Int)) = false := decide_eq_false (by omega)
  clear hs h1 h2 hx0
  have hmf : ∀ (fn : Fn) (first cap : Array Value) (w : World), (Instr.makeFunc fn first cap).run Try.prog w = .ok (.func fn first cap) w := fun _ _ _ _ => rfl
  go_enter_defers Try.func12, Try.ntmps12
  go_upto_region 4 with (first | (go_at_call 25; (with_reducible refine (num_New.calls s s 0 (iW w) _ (Below.refl _ _) rfl).mono ?_); rintro e w1 ⟨g, rfl, hi, hb, _⟩; have HP0 := Aside0.mk (newP (w := w) 34 (iW_b0 w) (iW_b1 w) (by simp) hi (show Below w.heap.size w w1 from (below_alloc (below_alloc (Below.refl _ _) _) _).trans (hb.mono (by simp; omega))) hb); have r4 := cellAt (i := 0) HP0.out.box rfl; clear hi hb) | (go_at_call 27; (with_reducible refine (reader_num g s 0 1 w _ HP0.out.rd HP0.out.bel (by omega) (by have := HN.out; omega) (by omega) (by omega) HS.out).mono ?_); clear r4; rintro e w2 ⟨rfl, hi, hb, hk⟩; rw [← HX0.out]; have HP1 := Aside0.mk (HP0.out.call (show IsS93 w w2 g s 1 by simpa using hi) hb hk); have r4 := cellAt (i := 0) HP1.out.box rfl; have k0 := cellAt (i := 0) HP1.out.t2 rfl; have f0 := blk_frozen HP1.out.t2 0; clear hi hb hk))
  have HP2 := Aside0.mk (show PS 34 w (w2.setCell ⟨w.heap.size, 0, none⟩ (.int .i64 2)) g w1.heap.size s 1 #[.int .i64 2, .string ⟨#[]⟩, .int .u32 0, .int .u64 0, .bool false, .bool false, .int .u64 0, .int .u64 0, .int .i64 0, .int .u64 0, .slice none 0 0, .int .u64 0, .int .u64 0, .int .i64 0, .int .u64 0, .int .u64 0, .int .i64 0, .int .i64 0] from HP1.out.set 0 _)
  clear r4 k0 f0
  generalize w2.setCell ⟨w.heap.size, 0, none⟩ (.int .i64 2) = W2 at HP2 ⊢
  have r4 := cellAt (i := 0) HP2.out.box rfl
  have k0 := cellAt (i := 0) HP2.out.t2 rfl
  go_wp2_with (first | (go_at_call 26; (with_reducible refine (bad_no _ _).mono ?_); rintro e w_ ⟨rfl, rfl⟩))
  refine start_ (n := 11) (S := fun w' => w'.cell? ⟨w1.heap.size, 0, none⟩ = some (.pointer (some ⟨g, 0, none⟩))) (ds := [8, 10]) #[false, false, false, false, false, false, false, false, false, false, false] (by kernel_rfl) rfl rfl (show _ = _ from r4) (fun hHeld => ?_)
  have HPd := Aside0.mk (HP2.out.below (W1 := W2.drew) (below_drew (Below.refl _ _)))
  generalize W2.drew = wd at HPd hHeld ⊢
  refine pure_ (i := 0) (N := some 32) (v := ?_) (a' := ?_) #[true, false, false, false, false, false, false, false, false, false, false] rfl rfl (by kernel_rfl) (fun c a w h => hq12 32 (by decide) (by decide) _ c a w h) (Or.inl ⟨by rfl, ?_⟩) ?_ ?_
  rotate_left
  · intro w'
    go_simp
    with_reducible rfl
  rotate_left
  · simp only [Act.put, List.setIfInBounds_toArray, List.set_cons_zero, List.set_cons_succ, i64_w, i32_w]
    rfl
  refine take_ (i := 1) (N := some 33) (v := ?_) (a' := ?_) #[true, true, false, false, false, false, false, false, false, false, false] rfl rfl (by kernel_rfl) (fun c a w h => hq12 33 (by decide) (by decide) _ c a w h) (Or.inl ⟨by rfl, ?_⟩) hHeld ?_ ?_
  rotate_left
  · rintro w' s0
    go_simp
    with_reducible rfl
  rotate_left
  · simp only [Act.put, List.setIfInBounds_toArray, List.set_cons_zero, List.set_cons_succ, i64_w, i32_w]
    rfl
  refine pure_ (i := 4) (N := some 36) (v := ?_) (a' := ?_) #[true, true, false, false, true, false, false, false, false, false, false] rfl rfl (by kernel_rfl) (fun c a w h => hq12 36 (by decide) (by decide) _ c a w h) (Or.inl ⟨by rfl, ?_⟩) ?_ ?_
  rotate_left
  · intro w'
    go_simp
    with_reducible rfl
  rotate_left
  · simp only [Act.put, List.setIfInBounds_toArray, List.set_cons_zero, List.set_cons_succ, i64_w, i32_w]
    rfl
  refine take_ (i := 5) (N := some 37) (v := ?_) (a' := ?_) #[true, true, false, false, true, true, false, false, false, false, false] rfl rfl (by kernel_rfl) (fun c a w h => hq12 37 (by decide) (by decide) _ c a w h) (Or.inl ⟨by rfl, ?_⟩) hHeld ?_ ?_
  rotate_left
  · rintro w' s0
    go_simp
    with_reducible rfl
  rotate_left
  · simp only [Act.put, List.setIfInBounds_toArray, List.set_cons_zero, List.set_cons_succ, i64_w, i32_w]
    rfl
  refine one_ (i := 2) (N := some 34) #[true, true, true, false, true, true, false, false, false, false, false] rfl rfl (by kernel_rfl) (by decide) (fun K hK => ?_)
  refine goesP_ Try.func27 (by kernel_rfl) rfl #[.pointer (some ⟨g, 0, none⟩), .int .i64 4] (by rfl) rfl rfl (by (try simp only [List.map_toArray, List.map_cons, List.map_nil]); first | done | rfl) ?_
  with_reducible refine (reader_num_bad g s 1 4 w _ HPd.out.rd HPd.out.bel (by omega) (by have := HN.out; omega) (by have := HN.out; omega) (by omega) (by omega) HS.out).mono ?_
  rintro e w9 ⟨rfl, hb, hk⟩
  refine ⟨_, rfl, ?_⟩
  have HRB := Aside0.mk (show _ ∧ _ ∧ Below w.heap.size w _ from ⟨hk.blk HPd.out.t2 (by have := HPd.out.gg; omega) (by simp), hk.blk HPd.out.t3 (by have := HPd.out.gg; omega) (by simp), hb⟩)
  clear hb hk
  refine leaves_cons (f := 33) (args := #[.pointer (some ⟨w.heap.size, 0, none⟩), .pointer (some ⟨w.heap.size + 1, 0, none⟩)]) (by simp) (by simp [go_sem]) ?_
  refine (parseItem_catch w.heap.size (w.heap.size + 1) _ rfl 0 2 (by decide) _ HRB.out.1 HRB.out.2.1).mono ?_
  rintro e u' w'' ⟨rfl, rfl, k0, k1, hbl⟩
  have hb := hbl w HRB.out.2.2 (Nat.le_refl _) (by omega)
  exact ⟨_, results_cells2 rfl rfl rfl (run_loadVar_row (P := Try.prog) w'' w.heap.size 34 34 _ (0, 0) _ k0 Try.underlying34 rfl (by kernel_rfl)) (load_err k1), rfl, hb⟩
set_option maxHeartbeats 8000000 in
set_option maxRecDepth 100000 in
theorem pi2_short2 (s : ByteArray) (w : World) (hs : s.size ≤ 1000000) (h1 : 5 ≤ s.size) (hk0 : IntKind.i64.wrap (numAt s 0 1) = 2) (h2 : s.size < 13) :
    Calls Try.prog 12 #[.string s] w fun e w' => e = .returned (.tuple #[.agg #[.int .i64 0, .string ⟨#[]⟩, .int .u32 0, .int .u64 0, .bool false, .bool false, .int .u64 0, .int .u64 0, .int .i64 0, .int .u64 0, .slice none 0 0, .int .u64 0, .int .u64 0, .int .i64 0, .int .u64 0, .int .u64 0, .int .i64 0, .int .i64 0], .int .i64 2]) ∧ Below w.heap.size w w' := by
  obtain ⟨x0, hx0⟩ : ∃ x, x = numAt s 0 1 := ⟨_, rfl⟩
  have HX0 := Aside0.mk hx0
  have HS := Aside0.mk hs
  rw [← hx0] at hk0
  have HN := Aside0.mk (show 5 ≤ s.size ∧ s.size < 13 from ⟨h1, h2⟩)
  have b0 : decide (1024 < (s.size : Int)) = false := decide_eq_false (by omega)
  clear hs h1 h2 hx0
  have hmf : ∀ (fn : Fn) (first cap : Array Value) (w : World), (Instr.makeFunc fn first cap).run Try.prog w = .ok (.func fn first cap) w := fun _ _ _ _ => rfl
  go_enter_defers Try.func12, Try.ntmps12
  go_upto_region 4 with (first | (go_at_call 25; (with_reducible refine (num_New.calls s s 0 (iW w) _ (Below.refl _ _) rfl).mono ?_); rintro e w1 ⟨g, rfl, hi, hb, _⟩; have HP0 := Aside0.mk (newP (w := w) 34 (iW_b0 w) (iW_b1 w) (by simp) hi (show Below w.heap.size w w1 from (below_alloc (below_alloc (Below.refl _ _) _) _).trans (hb.mono (by simp; omega))) hb); have r4 := cellAt (i := 0) HP0.out.box rfl; clear hi hb) | (go_at_call 27; (with_reducible refine (reader_num g s 0 1 w _ HP0.out.rd HP0.out.bel (by omega) (by have := HN.out; omega) (by omega) (by omega) HS.out).mono ?_); clear r4; rintro e w2 ⟨rfl, hi, hb, hk⟩; rw [← HX0.out]; have HP1 := Aside0.mk (HP0.out.call (show IsS93 w w2 g s 1 by simpa using hi) hb hk); have r4 := cellAt (i := 0) HP1.out.box rfl; have k0 := cellAt (i := 0) HP1.out.t2 rfl; have f0 := blk_frozen HP1.out.t2 0; clear hi hb hk))
  have HP2 := Aside0.mk (show PS 34 w (w2.setCell ⟨w.heap.size, 0, none⟩ (.int .i64 2)) g w1.heap.size s 1 #[.int .i64 2, .string ⟨#[]⟩, .int .u32 0, .int .u64 0, .bool false, .bool false, .int .u64 0, .int .u64 0, .int .i64 0, .int .u64 0, .slice none 0 0, .int .u64 0, .int .u64 0, .int .i64 0, .int .u64 0, .int .u64 0, .int .i64 0, .int .i64 0] from HP1.out.set 0 _)
  clear r4 k0 f0
  generalize w2.setCell ⟨w.heap.size, 0, none⟩ (.int .i64 2) = W2 at HP2 ⊢
  have r4 := cellAt (i := 0) HP2.out.box rfl
  have k0 := cellAt (i := 0) HP2.out.t2 rfl
  go_wp2_with (first | (go_at_call 26; (with_reducible refine (bad_no _ _).mono ?_); rintro e w_ ⟨rfl, rfl⟩))
  refine start_ (n := 11) (S := fun w' => w'.cell? ⟨w1.heap.size, 0, none⟩ = some (.pointer (some ⟨g, 0, none⟩))) (ds := [8, 10]) #[false, false, false, false, false, false, false, false, false, false, false] (by kernel_rfl) rfl rfl (show _ = _ from r4) (fun hHeld => ?_)
  have HPd := Aside0.mk (HP2.out.below (W1 := W2.drew) (below_drew (Below.refl _ _)))
  generalize W2.drew = wd at HPd hHeld ⊢
  refine pure_ (i := 0) (N := some 32) (v := ?_) (a' := ?_) #[true, false, false, false, false, false, false, false, false, false, false] rfl rfl (by kernel_rfl) (fun c a w h => hq12 32 (by decide) (by decide) _ c a w h) (Or.inl ⟨by rfl, ?_⟩) ?_ ?_
  rotate_left
  · intro w'
    go_simp
    with_reducible rfl
  rotate_left
  · simp only [Act.put, List.setIfInBounds_toArray, List.set_cons_zero, List.set_cons_succ, i64_w, i32_w]
    rfl
  refine take_ (i := 1) (N := some 33) (v := ?_) (a' := ?_) #[true, true, false, false, false, false, false, false, false, false, false] rfl rfl (by kernel_rfl) (fun c a w h => hq12 33 (by decide) (by decide) _ c a w h) (Or.inl ⟨by rfl, ?_⟩) hHeld ?_ ?_
  rotate_left
  · rintro w' s0
    go_simp
    with_reducible rfl
  rotate_left
  · simp only [Act.put, List.setIfInBounds_toArray, List.set_cons_zero, List.set_cons_succ, i64_w, i32_w]
    rfl
  refine pure_ (i := 4) (N := some 36) (v := ?_) (a' := ?_) #[true, true, false, false, true, false, false, false, false, false, false] rfl rfl (by kernel_rfl) (fun c a w h => hq12 36 (by decide) (by decide) _ c a w h) (Or.inl ⟨by rfl, ?_⟩) ?_ ?_
  rotate_left
  · intro w'
    go_simp
    with_reducible rfl
  rotate_left
  · simp only [Act.put, List.setIfInBounds_toArray, List.set_cons_zero, List.set_cons_succ, i64_w, i32_w]
    rfl
  refine take_ (i := 5) (N := some 37) (v := ?_) (a' := ?_) #[true, true, false, false, true, true, false, false, false, false, false] rfl rfl (by kernel_rfl) (fun c a w h => hq12 37 (by decide) (by decide) _ c a w h) (Or.inl ⟨by rfl, ?_⟩) hHeld ?_ ?_
  rotate_left
  · rintro w' s0
    go_simp
    with_reducible rfl
  rotate_left
  · simp only [Act.put, List.setIfInBounds_toArray, List.set_cons_zero, List.set_cons_succ, i64_w, i32_w]
    rfl
  refine one_ (i := 2) (N := some 34) #[true, true, true, false, true, true, false, false, false, false, false] rfl rfl (by kernel_rfl) (by decide) (fun K hK => ?_)
  refine goes_ Try.func27 (by kernel_rfl) rfl #[.pointer (some ⟨g, 0, none⟩), .int .i64 4] (by rfl) rfl rfl (by (try simp only [List.map_toArray, List.map_cons, List.map_nil]); first | done | rfl) ?_
  with_reducible refine (reader_num g s 1 4 w _ HPd.out.rd HPd.out.bel (by omega) (by have := HN.out; omega) (by omega) (by omega) HS.out).mono ?_
  rintro e wd0 ⟨rfl, hi, hb, hk⟩
  refine ⟨_, rfl, ?_⟩
  have HPd0 := Aside0.mk (HPd.out.call (show IsS93 w wd0 g s 5 by simpa using hi) hb hk)
  clear hi hb hk
  refine hK.out _ _ (cellAt (i := 0) HPd0.out.box rfl) (fun hHeld => ?_)
  clear hK K
  refine norm_ (a' := ?_) ?_ ?_
  rotate_left
  · show Act.put _ (some 34) _ = _
    simp only [Act.put, List.setIfInBounds_toArray, List.set_cons_zero, List.set_cons_succ, i64_w, i32_w]
    rfl
  refine pure_ (i := 3) (N := some 35) (v := ?_) (a' := ?_) #[true, true, true, true, true, true, false, false, false, false, false] rfl rfl (by kernel_rfl) (fun c a w h => hq12 35 (by decide) (by decide) _ c a w h) (Or.inl ⟨by rfl, ?_⟩) ?_ ?_
  rotate_left
  · intro w'
    go_simp
    with_reducible rfl
  rotate_left
  · simp only [Act.put, List.setIfInBounds_toArray, List.set_cons_zero, List.set_cons_succ, i64_w, i32_w]
    rfl
  refine pure_ (i := 7) (N := some 39) (v := ?_) (a' := ?_) #[true, true, true, true, true, true, false, true, false, false, false] rfl rfl (by kernel_rfl) (fun c a w h => hq12 39 (by decide) (by decide) _ c a w h) (Or.inl ⟨by rfl, ?_⟩) ?_ ?_
  rotate_left
  · intro w'
    go_simp
    with_reducible rfl
  rotate_left
  · simp only [Act.put, List.setIfInBounds_toArray, List.set_cons_zero, List.set_cons_succ, i64_w, i32_w]
    rfl
  refine one_ (i := 6) (N := some 38) #[true, true, true, true, true, true, true, true, false, false, false] rfl rfl (by kernel_rfl) (by decide) (fun K hK => ?_)
  refine goesP_ Try.func27 (by kernel_rfl) rfl #[.pointer (some ⟨g, 0, none⟩), .int .i64 8] (by rfl) rfl rfl (by (try simp only [List.map_toArray, List.map_cons, List.map_nil]); first | done | rfl) ?_
  with_reducible refine (reader_num_bad g s 5 8 w _ HPd0.out.rd HPd0.out.bel (by omega) (by have := HN.out; omega) (by have := HN.out; omega) (by omega) (by omega) HS.out).mono ?_
  rintro e w9 ⟨rfl, hb, hk⟩
  refine ⟨_, rfl, ?_⟩
  have HRB := Aside0.mk (show _ ∧ _ ∧ Below w.heap.size w _ from ⟨hk.blk HPd0.out.t2 (by have := HPd0.out.gg; omega) (by simp), hk.blk HPd0.out.t3 (by have := HPd0.out.gg; omega) (by simp), hb⟩)
  clear hb hk
  refine leaves_cons (f := 33) (args := #[.pointer (some ⟨w.heap.size, 0, none⟩), .pointer (some ⟨w.heap.size + 1, 0, none⟩)]) (by simp) (by simp [go_sem]) ?_
  refine (parseItem_catch w.heap.size (w.heap.size + 1) _ rfl 0 2 (by decide) _ HRB.out.1 HRB.out.2.1).mono ?_
  rintro e u' w'' ⟨rfl, rfl, k0, k1, hbl⟩
  have hb := hbl w HRB.out.2.2 (Nat.le_refl _) (by omega)
  exact ⟨_, results_cells2 rfl rfl rfl (run_loadVar_row (P := Try.prog) w'' w.heap.size 34 34 _ (0, 0) _ k0 Try.underlying34 rfl (by kernel_rfl)) (load_err k1), rfl, hb⟩
set_option maxHeartbeats 8000000 in
set_option maxRecDepth 100000 in
theorem pi4_short1 (s : ByteArray) (w : World) (hs : s.size ≤ 1000000) (h1 : 1 ≤ s.size) (hk0 : IntKind.i64.wrap (numAt s 0 1) = 4) (h2 : s.size < 9) :
    Calls Try.prog 12 #[.string s] w fun e w' => e = .returned (.tuple #[.agg #[.int .i64 0, .string ⟨#[]⟩, .int .u32 0, .int .u64 0, .bool false, .bool false, .int .u64 0, .int .u64 0, .int .i64 0, .int .u64 0, .slice none 0 0, .int .u64 0, .int .u64 0, .int .i64 0, .int .u64 0, .int .u64 0, .int .i64 0, .int .i64 0], .int .i64 2]) ∧ Below w.heap.size w w' := by
  obtain ⟨x0, hx0⟩ : ∃ x, x = numAt s 0 1 := ⟨_, rfl⟩
  have HX0 := Aside0.mk hx0
  have HS := Aside0.mk hs
  rw [← hx0] at hk0
  have HN := Aside0.mk (show 1 ≤ s.size ∧ s.size < 9 from ⟨h1, h2⟩)
  have b0 : decide (1024 < (s.size : Int)) = false := decide_eq_false (by omega)
  clear hs h1 h2 hx0
  have hmf : ∀ (fn : Fn) (first cap : Array Value) (w : World), (Instr.makeFunc fn first cap).run Try.prog w = .ok (.func fn first cap) w := fun _ _ _ _ => rfl
  go_enter_defers Try.func12, Try.ntmps12
  go_upto_region 4 with (first | (go_at_call 25; (with_reducible refine (num_New.calls s s 0 (iW w) _ (Below.refl _ _) rfl).mono ?_); rintro e w1 ⟨g, rfl, hi, hb, _⟩; have HP0 := Aside0.mk (newP (w := w) 34 (iW_b0 w) (iW_b1 w) (by simp) hi (show Below w.heap.size w w1 from (below_alloc (below_alloc (Below.refl _ _) _) _).trans (hb.mono (by simp; omega))) hb); have r4 := cellAt (i := 0) HP0.out.box rfl; clear hi hb) | (go_at_call 27; (with_reducible refine (reader_num g s 0 1 w _ HP0.out.rd HP0.out.bel (by omega) (by have := HN.out; omega) (by omega) (by omega) HS.out).mono ?_); clear r4; rintro e w2 ⟨rfl, hi, hb, hk⟩; rw [← HX0.out]; have HP1 := Aside0.mk (HP0.out.call (show IsS93 w w2 g s 1 by simpa using hi) hb hk); have r4 := cellAt (i := 0) HP1.out.box rfl; have k0 := cellAt (i := 0) HP1.out.t2 rfl; have f0 := blk_frozen HP1.out.t2 0; clear hi hb hk))
  have HP2 := Aside0.mk (show PS 34 w (w2.setCell ⟨w.heap.size, 0, none⟩ (.int .i64 4)) g w1.heap.size s 1 #[.int .i64 4, .string ⟨#[]⟩, .int .u32 0, .int .u64 0, .bool false, .bool false, .int .u64 0, .int .u64 0, .int .i64 0, .int .u64 0, .slice none 0 0, .int .u64 0, .int .u64 0, .int .i64 0, .int .u64 0, .int .u64 0, .int .i64 0, .int .i64 0] from HP1.out.set 0 _)
  clear r4 k0 f0
  generalize w2.setCell ⟨w.heap.size, 0, none⟩ (.int .i64 4) = W2 at HP2 ⊢
  have r4 := cellAt (i := 0) HP2.out.box rfl
  have k0 := cellAt (i := 0) HP2.out.t2 rfl
  go_wp2_with (first | (go_at_call 26; (with_reducible refine (bad_no _ _).mono ?_); rintro e w_ ⟨rfl, rfl⟩))
  refine start_ (n := 17) (S := fun w' => w'.cell? ⟨w1.heap.size, 0, none⟩ = some (.pointer (some ⟨g, 0, none⟩))) (ds := [12, 14, 16]) #[false, false, false, false, false, false, false, false, false, false, false, false, false, false, false, false, false] (by kernel_rfl) rfl rfl (show _ = _ from r4) (fun hHeld => ?_)
  have HPd := Aside0.mk (HP2.out.below (W1 := W2.drew) (below_drew (Below.refl _ _)))
  generalize W2.drew = wd at HPd hHeld ⊢
  refine pure_ (i := 0) (N := some 65) (v := ?_) (a' := ?_) #[true, false, false, false, false, false, false, false, false, false, false, false, false, false, false, false, false] rfl rfl (by kernel_rfl) (fun c a w h => hq12 65 (by decide) (by decide) _ c a w h) (Or.inl ⟨by rfl, ?_⟩) ?_ ?_
  rotate_left
  · intro w'
    go_simp
    with_reducible rfl
  rotate_left
  · simp only [Act.put, List.setIfInBounds_toArray, List.set_cons_zero, List.set_cons_succ, i64_w, i32_w]
    rfl
  refine take_ (i := 1) (N := some 66) (v := ?_) (a' := ?_) #[true, true, false, false, false, false, false, false, false, false, false, false, false, false, false, false, false] rfl rfl (by kernel_rfl) (fun c a w h => hq12 66 (by decide) (by decide) _ c a w h) (Or.inl ⟨by rfl, ?_⟩) hHeld ?_ ?_
  rotate_left
  · rintro w' s0
    go_simp
    with_reducible rfl
  rotate_left
  · simp only [Act.put, List.setIfInBounds_toArray, List.set_cons_zero, List.set_cons_succ, i64_w, i32_w]
    rfl
  refine pure_ (i := 3) (N := some 68) (v := ?_) (a' := ?_) #[true, true, false, true, false, false, false, false, false, false, false, false, false, false, false, false, false] rfl rfl (by kernel_rfl) (fun c a w h => hq12 68 (by decide) (by decide) _ c a w h) (Or.inl ⟨by rfl, ?_⟩) ?_ ?_
  rotate_left
  · intro w'
    go_simp
    with_reducible rfl
  rotate_left
  · simp only [Act.put, List.setIfInBounds_toArray, List.set_cons_zero, List.set_cons_succ, i64_w, i32_w]
    rfl
  refine take_ (i := 4) (N := some 69) (v := ?_) (a' := ?_) #[true, true, false, true, true, false, false, false, false, false, false, false, false, false, false, false, false] rfl rfl (by kernel_rfl) (fun c a w h => hq12 69 (by decide) (by decide) _ c a w h) (Or.inl ⟨by rfl, ?_⟩) hHeld ?_ ?_
  rotate_left
  · rintro w' s0
    go_simp
    with_reducible rfl
  rotate_left
  · simp only [Act.put, List.setIfInBounds_toArray, List.set_cons_zero, List.set_cons_succ, i64_w, i32_w]
    rfl
  refine pure_ (i := 7) (N := some 72) (v := ?_) (a' := ?_) #[true, true, false, true, true, false, false, true, false, false, false, false, false, false, false, false, false] rfl rfl (by kernel_rfl) (fun c a w h => hq12 72 (by decide) (by decide) _ c a w h) (Or.inl ⟨by rfl, ?_⟩) ?_ ?_
  rotate_left
  · intro w'
    go_simp
    with_reducible rfl
  rotate_left
  · simp only [Act.put, List.setIfInBounds_toArray, List.set_cons_zero, List.set_cons_succ, i64_w, i32_w]
    rfl
  refine take_ (i := 8) (N := some 73) (v := ?_) (a' := ?_) #[true, true, false, true, true, false, false, true, true, false, false, false, false, false, false, false, false] rfl rfl (by kernel_rfl) (fun c a w h => hq12 73 (by decide) (by decide) _ c a w h) (Or.inl ⟨by rfl, ?_⟩) hHeld ?_ ?_
  rotate_left
  · rintro w' s0
    go_simp
    with_reducible rfl
  rotate_left
  · simp only [Act.put, List.setIfInBounds_toArray, List.set_cons_zero, List.set_cons_succ, i64_w, i32_w]
    rfl
  refine one_ (i := 2) (N := some 67) #[true, true, true, true, true, false, false, true, true, false, false, false, false, false, false, false, false] rfl rfl (by kernel_rfl) (by decide) (fun K hK => ?_)
  refine goesP_ Try.func27 (by kernel_rfl) rfl #[.pointer (some ⟨g, 0, none⟩), .int .i64 8] (by rfl) rfl rfl (by (try simp only [List.map_toArray, List.map_cons, List.map_nil]); first | done | rfl) ?_
  with_reducible refine (reader_num_bad g s 1 8 w _ HPd.out.rd HPd.out.bel (by omega) (by have := HN.out; omega) (by have := HN.out; omega) (by omega) (by omega) HS.out).mono ?_
  rintro e w9 ⟨rfl, hb, hk⟩
  refine ⟨_, rfl, ?_⟩
  have HRB := Aside0.mk (show _ ∧ _ ∧ Below w.heap.size w _ from ⟨hk.blk HPd.out.t2 (by have := HPd.out.gg; omega) (by simp), hk.blk HPd.out.t3 (by have := HPd.out.gg; omega) (by simp), hb⟩)
  clear hb hk
  refine leaves_cons (f := 33) (args := #[.pointer (some ⟨w.heap.size, 0, none⟩), .pointer (some ⟨w.heap.size + 1, 0, none⟩)]) (by simp) (by simp [go_sem]) ?_
  refine (parseItem_catch w.heap.size (w.heap.size + 1) _ rfl 0 2 (by decide) _ HRB.out.1 HRB.out.2.1).mono ?_
  rintro e u' w'' ⟨rfl, rfl, k0, k1, hbl⟩
  have hb := hbl w HRB.out.2.2 (Nat.le_refl _) (by omega)
  exact ⟨_, results_cells2 rfl rfl rfl (run_loadVar_row (P := Try.prog) w'' w.heap.size 34 34 _ (0, 0) _ k0 Try.underlying34 rfl (by kernel_rfl)) (load_err k1), rfl, hb⟩
set_option maxHeartbeats 8000000 in
set_option maxRecDepth 100000 in
theorem pi4_short2 (s : ByteArray) (w : World) (hs : s.size ≤ 1000000) (h1 : 9 ≤ s.size) (hk0 : IntKind.i64.wrap (numAt s 0 1) = 4) (h2 : s.size < 11) :
    Calls Try.prog 12 #[.string s] w fun e w' => e = .returned (.tuple #[.agg #[.int .i64 0, .string ⟨#[]⟩, .int .u32 0, .int .u64 0, .bool false, .bool false, .int .u64 0, .int .u64 0, .int .i64 0, .int .u64 0, .slice none 0 0, .int .u64 0, .int .u64 0, .int .i64 0, .int .u64 0, .int .u64 0, .int .i64 0, .int .i64 0], .int .i64 2]) ∧ Below w.heap.size w w' := by
  obtain ⟨x0, hx0⟩ : ∃ x, x = numAt s 0 1 := ⟨_, rfl⟩
  have HX0 := Aside0.mk hx0
  have HS := Aside0.mk hs
  rw [← hx0] at hk0
  have HN := Aside0.mk (show 9 ≤ s.size ∧ s.size < 11 from ⟨h1, h2⟩)
  have b0 : decide (1024 < (s.size : Int)) = false := decide_eq_false (by omega)
  clear hs h1 h2 hx0
  have hmf : ∀ (fn : Fn) (first cap : Array Value) (w : World), (Instr.makeFunc fn first cap).run Try.prog w = .ok (.func fn first cap) w := fun _ _ _ _ => rfl
  go_enter_defers Try.func12, Try.ntmps12
  go_upto_region 4 with (first | (go_at_call 25; (with_reducible refine (num_New.calls s s 0 (iW w) _ (Below.refl _ _) rfl).mono ?_); rintro e w1 ⟨g, rfl, hi, hb, _⟩; have HP0 := Aside0.mk (newP (w := w) 34 (iW_b0 w) (iW_b1 w) (by simp) hi (show Below w.heap.size w w1 from (below_alloc (below_alloc (Below.refl _ _) _) _).trans (hb.mono (by simp; omega))) hb); have r4 := cellAt (i := 0) HP0.out.box rfl; clear hi hb) | (go_at_call 27; (with_reducible refine (reader_num g s 0 1 w _ HP0.out.rd HP0.out.bel (by omega) (by have := HN.out; omega) (by omega) (by omega) HS.out).mono ?_); clear r4; rintro e w2 ⟨rfl, hi, hb, hk⟩; rw [← HX0.out]; have HP1 := Aside0.mk (HP0.out.call (show IsS93 w w2 g s 1 by simpa using hi) hb hk); have r4 := cellAt (i := 0) HP1.out.box rfl; have k0 := cellAt (i := 0) HP1.out.t2 rfl; have f0 := blk_frozen HP1.out.t2 0; clear hi hb hk))
  have HP2 := Aside0.mk (show PS 34 w (w2.setCell ⟨w.heap.size, 0, none⟩ (.int .i64 4)) g w1.heap.size s 1 #[.int .i64 4, .string ⟨#[]⟩, .int .u32 0, .int .u64 0, .bool false, .bool false, .int .u64 0, .int .u64 0, .int .i64 0, .int .u64 0, .slice none 0 0, .int .u64 0, .int .u64 0, .int .i64 0, .int .u64 0, .int .u64 0, .int .i64 0, .int .i64 0] from HP1.out.set 0 _)
  clear r4 k0 f0
  generalize w2.setCell ⟨w.heap.size, 0, none⟩ (.int .i64 4) = W2 at HP2 ⊢
  have r4 := cellAt (i := 0) HP2.out.box rfl
  have k0 := cellAt (i := 0) HP2.out.t2 rfl
  go_wp2_with (first | (go_at_call 26; (with_reducible refine (bad_no _ _).mono ?_); rintro e w_ ⟨rfl, rfl⟩))
  refine start_ (n := 17) (S := fun w' => w'.cell? ⟨w1.heap.size, 0, none⟩ = some (.pointer (some ⟨g, 0, none⟩))) (ds := [12, 14, 16]) #[false, false, false, false, false, false, false, false, false, false, false, false, false, false, false, false, false] (by kernel_rfl) rfl rfl (show _ = _ from r4) (fun hHeld => ?_)
  have HPd := Aside0.mk (HP2.out.below (W1 := W2.drew) (below_drew (Below.refl _ _)))
  generalize W2.drew = wd at HPd hHeld ⊢
  refine pure_ (i := 0) (N := some 65) (v := ?_) (a' := ?_) #[true, false, false, false, false, false, false, false, false, false, false, false, false, false, false, false, false] rfl rfl (by kernel_rfl) (fun c a w h => hq12 65 (by decide) (by decide) _ c a w h) (Or.inl ⟨by rfl, ?_⟩) ?_ ?_
  rotate_left
  · intro w'
    go_simp
    with_reducible rfl
  rotate_left
  · simp only [Act.put, List.setIfInBounds_toArray, List.set_cons_zero, List.set_cons_succ, i64_w, i32_w]
    rfl
  refine take_ (i := 1) (N := some 66) (v := ?_) (a' := ?_) #[true, true, false, false, false, false, false, false, false, false, false, false, false, false, false, false, false] rfl rfl (by kernel_rfl) (fun c a w h => hq12 66 (by decide) (by decide) _ c a w h) (Or.inl ⟨by rfl, ?_⟩) hHeld ?_ ?_
  rotate_left
  · rintro w' s0
    go_simp
    with_reducible rfl
  rotate_left
  · simp only [Act.put, List.setIfInBounds_toArray, List.set_cons_zero, List.set_cons_succ, i64_w, i32_w]
    rfl
  refine pure_ (i := 3) (N := some 68) (v := ?_) (a' := ?_) #[true, true, false, true, false, false, false, false, false, false, false, false, false, false, false, false, false] rfl rfl (by kernel_rfl) (fun c a w h => hq12 68 (by decide) (by decide) _ c a w h) (Or.inl ⟨by rfl, ?_⟩) ?_ ?_
  rotate_left
  · intro w'
    go_simp
    with_reducible rfl
  rotate_left
  · simp only [Act.put, List.setIfInBounds_toArray, List.set_cons_zero, List.set_cons_succ, i64_w, i32_w]
    rfl
  refine take_ (i := 4) (N := some 69) (v := ?_) (a' := ?_) #[true, true, false, true, true, false, false, false, false, false, false, false, false, false, false, false, false] rfl rfl (by kernel_rfl) (fun c a w h => hq12 69 (by decide) (by decide) _ c a w h) (Or.inl ⟨by rfl, ?_⟩) hHeld ?_ ?_
  rotate_left
  · rintro w' s0
    go_simp
    with_reducible rfl
  rotate_left
  · simp only [Act.put, List.setIfInBounds_toArray, List.set_cons_zero, List.set_cons_succ, i64_w, i32_w]
    rfl
  refine pure_ (i := 7) (N := some 72) (v := ?_) (a' := ?_) #[true, true, false, true, true, false, false, true, false, false, false, false, false, false, false, false, false] rfl rfl (by kernel_rfl) (fun c a w h => hq12 72 (by decide) (by decide) _ c a w h) (Or.inl ⟨by rfl, ?_⟩) ?_ ?_
  rotate_left
  · intro w'
    go_simp
    with_reducible rfl
  rotate_left
  · simp only [Act.put, List.setIfInBounds_toArray, List.set_cons_zero, List.set_cons_succ, i64_w, i32_w]
    rfl
  refine take_ (i := 8) (N := some 73) (v := ?_) (a' := ?_) #[true, true, false, true, true, false, false, true, true, false, false, false, false, false, false, false, false] rfl rfl (by kernel_rfl) (fun c a w h => hq12 73 (by decide) (by decide) _ c a w h) (Or.inl ⟨by rfl, ?_⟩) hHeld ?_ ?_
  rotate_left
  · rintro w' s0
    go_simp
    with_reducible rfl
  rotate_left
  · simp only [Act.put, List.setIfInBounds_toArray, List.set_cons_zero, List.set_cons_succ, i64_w, i32_w]
    rfl
  refine one_ (i := 2) (N := some 67) #[true, true, true, true, true, false, false, true, true, false, false, false, false, false, false, false, false] rfl rfl (by kernel_rfl) (by decide) (fun K hK => ?_)
  refine goes_ Try.func27 (by kernel_rfl) rfl #[.pointer (some ⟨g, 0, none⟩), .int .i64 8] (by rfl) rfl rfl (by (try simp only [List.map_toArray, List.map_cons, List.map_nil]); first | done | rfl) ?_
  with_reducible refine (reader_num g s 1 8 w _ HPd.out.rd HPd.out.bel (by omega) (by have := HN.out; omega) (by omega) (by omega) HS.out).mono ?_
  rintro e wd0 ⟨rfl, hi, hb, hk⟩
  refine ⟨_, rfl, ?_⟩
  have HPd0 := Aside0.mk (HPd.out.call (show IsS93 w wd0 g s 9 by simpa using hi) hb hk)
  clear hi hb hk
  refine hK.out _ _ (cellAt (i := 0) HPd0.out.box rfl) (fun hHeld => ?_)
  clear hK K
  refine norm_ (a' := ?_) ?_ ?_
  rotate_left
  · show Act.put _ (some 67) _ = _
    simp only [Act.put, List.setIfInBounds_toArray, List.set_cons_zero, List.set_cons_succ, i64_w, i32_w]
    rfl
  refine pure_ (i := 11) (N := some 76) (v := ?_) (a' := ?_) #[true, true, true, true, true, false, false, true, true, false, false, true, false, false, false, false, false] rfl rfl (by kernel_rfl) (fun c a w h => hq12 76 (by decide) (by decide) _ c a w h) (Or.inl ⟨by rfl, ?_⟩) ?_ ?_
  rotate_left
  · intro w'
    go_simp
    with_reducible rfl
  rotate_left
  · simp only [Act.put, List.setIfInBounds_toArray, List.set_cons_zero, List.set_cons_succ, i64_w, i32_w]
    rfl
  refine one_ (i := 5) (N := some 70) #[true, true, true, true, true, true, false, true, true, false, false, true, false, false, false, false, false] rfl rfl (by kernel_rfl) (by decide) (fun K hK => ?_)
  refine goesP_ Try.func27 (by kernel_rfl) rfl #[.pointer (some ⟨g, 0, none⟩), .int .i64 2] (by rfl) rfl rfl (by (try simp only [List.map_toArray, List.map_cons, List.map_nil]); first | done | rfl) ?_
  with_reducible refine (reader_num_bad g s 9 2 w _ HPd0.out.rd HPd0.out.bel (by omega) (by have := HN.out; omega) (by have := HN.out; omega) (by omega) (by omega) HS.out).mono ?_
  rintro e w9 ⟨rfl, hb, hk⟩
  refine ⟨_, rfl, ?_⟩
  have HRB := Aside0.mk (show _ ∧ _ ∧ Below w.heap.size w _ from ⟨hk.blk HPd0.out.t2 (by have := HPd0.out.gg; omega) (by simp), hk.blk HPd0.out.t3 (by have := HPd0.out.gg; omega) (by simp), hb⟩)
  clear hb hk
  refine leaves_cons (f := 33) (args := #[.pointer (some ⟨w.heap.size, 0, none⟩), .pointer (some ⟨w.heap.size + 1, 0, none⟩)]) (by simp) (by simp [go_sem]) ?_
  refine (parseItem_catch w.heap.size (w.heap.size + 1) _ rfl 0 2 (by decide) _ HRB.out.1 HRB.out.2.1).mono ?_
  rintro e u' w'' ⟨rfl, rfl, k0, k1, hbl⟩
  have hb := hbl w HRB.out.2.2 (Nat.le_refl _) (by omega)
  exact ⟨_, results_cells2 rfl rfl rfl (run_loadVar_row (P := Try.prog) w'' w.heap.size 34 34 _ (0, 0) _ k0 Try.underlying34 rfl (by kernel_rfl)) (load_err k1), rfl, hb⟩
set_option maxHeartbeats 8000000 in
set_option maxRecDepth 100000 in
theorem pi4_short3 (s : ByteArray) (w : World) (hs : s.size ≤ 1000000) (h1 : 11 ≤ s.size) (hk0 : IntKind.i64.wrap (numAt s 0 1) = 4) (h2 : s.size < 13) :
    Calls Try.prog 12 #[.string s] w fun e w' => e = .returned (.tuple #[.agg #[.int .i64 0, .string ⟨#[]⟩, .int .u32 0, .int .u64 0, .bool false, .bool false, .int .u64 0, .int .u64 0, .int .i64 0, .int .u64 0, .slice none 0 0, .int .u64 0, .int .u64 0, .int .i64 0, .int .u64 0, .int .u64 0, .int .i64 0, .int .i64 0], .int .i64 2]) ∧ Below w.heap.size w w' := by
  obtain ⟨x0, hx0⟩ : ∃ x, x = numAt s 0 1 := ⟨_, rfl⟩
  have HX0 := Aside0.mk hx0
  have HS := Aside0.mk hs
  rw [← hx0] at hk0
  have HN := Aside0.mk (show 11 ≤ s.size ∧ s.size < 13 from ⟨h1, h2⟩)
  have b0 : decide (1024 < (s.size : Int)) = false := decide_eq_false (by omega)
  clear hs h1 h2 hx0
  have hmf : ∀ (fn : Fn) (first cap : Array Value) (w : World), (Instr.makeFunc fn first cap).run Try.prog w = .ok (.func fn first cap) w := fun _ _ _ _ => rfl
  go_enter_defers Try.func12, Try.ntmps12
  go_upto_region 4 with (first | (go_at_call 25; (with_reducible refine (num_New.calls s s 0 (iW w) _ (Below.refl _ _) rfl).mono ?_); rintro e w1 ⟨g, rfl, hi, hb, _⟩; have HP0 := Aside0.mk (newP (w := w) 34 (iW_b0 w) (iW_b1 w) (by simp) hi (show Below w.heap.size w w1 from (below_alloc (below_alloc (Below.refl _ _) _) _).trans (hb.mono (by simp; omega))) hb); have r4 := cellAt (i := 0) HP0.out.box rfl; clear hi hb) | (go_at_call 27; (with_reducible refine (reader_num g s 0 1 w _ HP0.out.rd HP0.out.bel (by omega) (by have := HN.out; omega) (by omega) (by omega) HS.out).mono ?_); clear r4; rintro e w2 ⟨rfl, hi, hb, hk⟩; rw [← HX0.out]; have HP1 := Aside0.mk (HP0.out.call (show IsS93 w w2 g s 1 by simpa using hi) hb hk); have r4 := cellAt (i := 0) HP1.out.box rfl; have k0 := cellAt (i := 0) HP1.out.t2 rfl; have f0 := blk_frozen HP1.out.t2 0; clear hi hb hk))
  have HP2 := Aside0.mk (show PS 34 w (w2.setCell ⟨w.heap.size, 0, none⟩ (.int .i64 4)) g w1.heap.size s 1 #[.int .i64 4, .string ⟨#[]⟩, .int .u32 0, .int .u64 0, .bool false, .bool false, .int .u64 0, .int .u64 0, .int .i64 0, .int .u64 0, .slice none 0 0, .int .u64 0, .int .u64 0, .int .i64 0, .int .u64 0, .int .u64 0, .int .i64 0, .int .i64 0] from HP1.out.set 0 _)
  clear r4 k0 f0
  generalize w2.setCell ⟨w.heap.size, 0, none⟩ (.int .i64 4) = W2 at HP2 ⊢
  have r4 := cellAt (i := 0) HP2.out.box rfl
  have k0 := cellAt (i := 0) HP2.out.t2 rfl
  go_wp2_with (first | (go_at_call 26; (with_reducible refine (bad_no _ _).mono ?_); rintro e w_ ⟨rfl, rfl⟩))
  refine start_ (n := 17) (S := fun w' => w'.cell? ⟨w1.heap.size, 0, none⟩ = some (.pointer (some ⟨g, 0, none⟩))) (ds := [12, 14, 16]) #[false, false, false, false, false, false, false, false, false, false, false, false, false, false, false, false, false] (by kernel_rfl) rfl rfl (show _ = _ from r4) (fun hHeld => ?_)
  have HPd := Aside0.mk (HP2.out.below (W1 := W2.drew) (below_drew (Below.refl _ _)))
  generalize W2.drew = wd at HPd hHeld ⊢
  refine pure_ (i := 0) (N := some 65) (v := ?_) (a' := ?_) #[true, false, false, false, false, false, false, false, false, false, false, false, false, false, false, false, false] rfl rfl (by kernel_rfl) (fun c a w h => hq12 65 (by decide) (by decide) _ c a w h) (Or.inl ⟨by rfl, ?_⟩) ?_ ?_
  rotate_left
  · intro w'
    go_simp
    with_reducible rfl
  rotate_left
  · simp only [Act.put, List.setIfInBounds_toArray, List.set_cons_zero, List.set_cons_succ, i64_w, i32_w]
    rfl
  refine take_ (i := 1) (N := some 66) (v := ?_) (a' := ?_) #[true, true, false, false, false, false, false, false, false, false, false, false, false, false, false, false, false] rfl rfl (by kernel_rfl) (fun c a w h => hq12 66 (by decide) (by decide) _ c a w h) (Or.inl ⟨by rfl, ?_⟩) hHeld ?_ ?_
  rotate_left
  · rintro w' s0
    go_simp
    with_reducible rfl
  rotate_left
  · simp only [Act.put, List.setIfInBounds_toArray, List.set_cons_zero, List.set_cons_succ, i64_w, i32_w]
    rfl
  refine pure_ (i := 3) (N := some 68) (v := ?_) (a' := ?_) #[true, true, false, true, false, false, false, false, false, false, false, false, false, false, false, false, false] rfl rfl (by kernel_rfl) (fun c a w h => hq12 68 (by decide) (by decide) _ c a w h) (Or.inl ⟨by rfl, ?_⟩) ?_ ?_
  rotate_left
  · intro w'
    go_simp
    with_reducible rfl
  rotate_left
  · simp only [Act.put, List.setIfInBounds_toArray, List.set_cons_zero, List.set_cons_succ, i64_w, i32_w]
    rfl
  refine take_ (i := 4) (N := some 69) (v := ?_) (a' := ?_) #[true, true, false, true, true, false, false, false, false, false, false, false, false, false, false, false, false] rfl rfl (by kernel_rfl) (fun c a w h => hq12 69 (by decide) (by decide) _ c a w h) (Or.inl ⟨by rfl, ?_⟩) hHeld ?_ ?_
  rotate_left
  · rintro w' s0
    go_simp
    with_reducible rfl
  rotate_left
  · simp only [Act.put, List.setIfInBounds_toArray, List.set_cons_zero, List.set_cons_succ, i64_w, i32_w]
    rfl
  refine pure_ (i := 7) (N := some 72) (v := ?_) (a' := ?_) #[true, true, false, true, true, false, false, true, false, false, false, false, false, false, false, false, false] rfl rfl (by kernel_rfl) (fun c a w h => hq12 72 (by decide) (by decide) _ c a w h) (Or.inl ⟨by rfl, ?_⟩) ?_ ?_
  rotate_left
  · intro w'
    go_simp
    with_reducible rfl
  rotate_left
  · simp only [Act.put, List.setIfInBounds_toArray, List.set_cons_zero, List.set_cons_succ, i64_w, i32_w]
    rfl
  refine take_ (i := 8) (N := some 73) (v := ?_) (a' := ?_) #[true, true, false, true, true, false, false, true, true, false, false, false, false, false, false, false, false] rfl rfl (by kernel_rfl) (fun c a w h => hq12 73 (by decide) (by decide) _ c a w h) (Or.inl ⟨by rfl, ?_⟩) hHeld ?_ ?_
  rotate_left
  · rintro w' s0
    go_simp
    with_reducible rfl
  rotate_left
  · simp only [Act.put, List.setIfInBounds_toArray, List.set_cons_zero, List.set_cons_succ, i64_w, i32_w]
    rfl
  refine one_ (i := 2) (N := some 67) #[true, true, true, true, true, false, false, true, true, false, false, false, false, false, false, false, false] rfl rfl (by kernel_rfl) (by decide) (fun K hK => ?_)
  refine goes_ Try.func27 (by kernel_rfl) rfl #[.pointer (some ⟨g, 0, none⟩), .int .i64 8] (by rfl) rfl rfl (by (try simp only [List.map_toArray, List.map_cons, List.map_nil]); first | done | rfl) ?_
  with_reducible refine (reader_num g s 1 8 w _ HPd.out.rd HPd.out.bel (by omega) (by have := HN.out; omega) (by omega) (by omega) HS.out).mono ?_
  rintro e wd0 ⟨rfl, hi, hb, hk⟩
  refine ⟨_, rfl, ?_⟩
  have HPd0 := Aside0.mk (HPd.out.call (show IsS93 w wd0 g s 9 by simpa using hi) hb hk)
  clear hi hb hk
  refine hK.out _ _ (cellAt (i := 0) HPd0.out.box rfl) (fun hHeld => ?_)
  clear hK K
  refine norm_ (a' := ?_) ?_ ?_
  rotate_left
  · show Act.put _ (some 67) _ = _
    simp only [Act.put, List.setIfInBounds_toArray, List.set_cons_zero, List.set_cons_succ, i64_w, i32_w]
    rfl
  refine pure_ (i := 11) (N := some 76) (v := ?_) (a' := ?_) #[true, true, true, true, true, false, false, true, true, false, false, true, false, false, false, false, false] rfl rfl (by kernel_rfl) (fun c a w h => hq12 76 (by decide) (by decide) _ c a w h) (Or.inl ⟨by rfl, ?_⟩) ?_ ?_
  rotate_left
  · intro w'
    go_simp
    with_reducible rfl
  rotate_left
  · simp only [Act.put, List.setIfInBounds_toArray, List.set_cons_zero, List.set_cons_succ, i64_w, i32_w]
    rfl
  refine one_ (i := 5) (N := some 70) #[true, true, true, true, true, true, false, true, true, false, false, true, false, false, false, false, false] rfl rfl (by kernel_rfl) (by decide) (fun K hK => ?_)
  refine goes_ Try.func27 (by kernel_rfl) rfl #[.pointer (some ⟨g, 0, none⟩), .int .i64 2] (by rfl) rfl rfl (by (try simp only [List.map_toArray, List.map_cons, List.map_nil]); first | done | rfl) ?_
  with_reducible refine (reader_num g s 9 2 w _ HPd0.out.rd HPd0.out.bel (by omega) (by have := HN.out; omega) (by omega) (by omega) HS.out).mono ?_
  rintro e wd1 ⟨rfl, hi, hb, hk⟩
  refine ⟨_, rfl, ?_⟩
  have HPd1 := Aside0.mk (HPd0.out.call (show IsS93 w wd1 g s 11 by simpa using hi) hb hk)
  clear hi hb hk
  refine hK.out _ _ (cellAt (i := 0) HPd1.out.box rfl) (fun hHeld => ?_)
  clear hK K
  refine norm_ (a' := ?_) ?_ ?_
  rotate_left
  · show Act.put _ (some 70) _ = _
    simp only [Act.put, List.setIfInBounds_toArray, List.set_cons_zero, List.set_cons_succ, i64_w, i32_w]
    rfl
  refine pure_ (i := 6) (N := some 71) (v := ?_) (a' := ?_) #[true, true, true, true, true, true, true, true, true, false, false, true, false, false, false, false, false] rfl rfl (by kernel_rfl) (fun c a w h => hq12 71 (by decide) (by decide) _ c a w h) (Or.inl ⟨by rfl, ?_⟩) ?_ ?_
  rotate_left
  · intro w'
    go_simp
    with_reducible rfl
  rotate_left
  · simp only [Act.put, List.setIfInBounds_toArray, List.set_cons_zero, List.set_cons_succ, i64_w, i32_w]
    rfl
  refine one_ (i := 9) (N := some 74) #[true, true, true, true, true, true, true, true, true, true, false, true, false, false, false, false, false] rfl rfl (by kernel_rfl) (by decide) (fun K hK => ?_)
  refine goesP_ Try.func27 (by kernel_rfl) rfl #[.pointer (some ⟨g, 0, none⟩), .int .i64 2] (by rfl) rfl rfl (by (try simp only [List.map_toArray, List.map_cons, List.map_nil]); first | done | rfl) ?_
  with_reducible refine (reader_num_bad g s 11 2 w _ HPd1.out.rd HPd1.out.bel (by omega) (by have := HN.out; omega) (by have := HN.out; omega) (by omega) (by omega) HS.out).mono ?_
  rintro e w9 ⟨rfl, hb, hk⟩
  refine ⟨_, rfl, ?_⟩
  have HRB := Aside0.mk (show _ ∧ _ ∧ Below w.heap.size w _ from ⟨hk.blk HPd1.out.t2 (by have := HPd1.out.gg; omega) (by simp), hk.blk HPd1.out.t3 (by have := HPd1.out.gg; omega) (by simp), hb⟩)
  clear hb hk
  refine leaves_cons (f := 33) (args := #[.pointer (some ⟨w.heap.size, 0, none⟩), .pointer (some ⟨w.heap.size + 1, 0, none⟩)]) (by simp) (by simp [go_sem]) ?_
  refine (parseItem_catch w.heap.size (w.heap.size + 1) _ rfl 0 2 (by decide) _ HRB.out.1 HRB.out.2.1).mono ?_
  rintro e u' w'' ⟨rfl, rfl, k0, k1, hbl⟩
  have hb := hbl w HRB.out.2.2 (Nat.le_refl _) (by omega)
  exact ⟨_, results_cells2 rfl rfl rfl (run_loadVar_row (P := Try.prog) w'' w.heap.size 34 34 _ (0, 0) _ k0 Try.underlying34 rfl (by kernel_rfl)) (load_err k1), rfl, hb⟩
end Go.Proofs.Ytlkemknhmfjdpaa.P
/- ParseItem, by hand. -/
namespace Go.Proofs.Ytlkemknhmfjdpaa.P
open Go.RowKit Go.Proofs.YtlkemknhmfjdpaaW.PrintWords Go.Proofs.YtlkemknhmfjdpaaW.PrintLast Go.Proofs.YtlkemknhmfjdpaaW.PrintMore
attribute [local go_sem] max2_int min2_int max_two min_two max_three min_three max_four min_four
set_option linter.unusedVariables false
set_option linter.unusedSimpArgs false

set_option maxHeartbeats 8000000 in
set_option maxRecDepth 100000 in
theorem pi4_good (s : ByteArray) (w : World) (hs : s.size ≤ 1000000) (h1 : 13 ≤ s.size) (hk0 : IntKind.i64.wrap (numAt s 0 1) = 4) (h2 : s.size ≤ 1024) :
    Calls Try.prog 12 #[.string s] w fun e w' => e = .returned (.tuple #[.agg #[.int .i64 4, .string (txtAt s 13), .int .u32 0, .int .u64 0, .bool false, .bool false, .int .u64 0, .int .u64 0, .int .i64 0, .int .u64 0, .slice none 0 0, .int .u64 0, .int .u64 0, .int .i64 0, .int .u64 0, .int .u64 (numAt s 1 8), .int .i64 (IntKind.i64.wrap (numAt s 9 2)), .int .i64 (IntKind.i64.wrap (numAt s 11 2))], .int .i64 0]) ∧ Below w.heap.size w w' := by
  obtain ⟨x0, hx0⟩ : ∃ x, x = numAt s 0 1 := ⟨_, rfl⟩
  have HX0 := Aside0.mk hx0
  have HS := Aside0.mk hs
  rw [← hx0] at hk0
  obtain ⟨x1, hx1⟩ : ∃ x, x = numAt s 1 8 := ⟨_, rfl⟩
  have HX1 := Aside0.mk hx1
  obtain ⟨x2, hx2⟩ : ∃ x, x = numAt s 9 2 := ⟨_, rfl⟩
  have HX2 := Aside0.mk hx2
  obtain ⟨y2, hy2⟩ : ∃ y, y = IntKind.i64.wrap x2 := ⟨_, rfl⟩
  have HY2 := Aside0.mk hy2
  have hyry2 : IntKind.i64.wrap x2 = y2 := hy2.symm
  obtain ⟨x3, hx3⟩ : ∃ x, x = numAt s 11 2 := ⟨_, rfl⟩
  have HX3 := Aside0.mk hx3
  obtain ⟨y3, hy3⟩ : ∃ y, y = IntKind.i64.wrap x3 := ⟨_, rfl⟩
  have HY3 := Aside0.mk hy3
  have hyry3 : IntKind.i64.wrap x3 = y3 := hy3.symm
  obtain ⟨d, hd⟩ : ∃ d, d = txtAt s 13 := ⟨_, rfl⟩
  have HD := Aside0.mk (show d = s.extract (13 : Int).toNat ((13 : Int) + ((s.size : Int) - 13)).toNat from hd)
  rw [← hd]
  rw [← hx1, ← hx2, ← hx3, ← hy2, ← hy3]
  have HN := Aside0.mk (show 13 ≤ s.size ∧ s.size ≤ 1024 from ⟨h1, h2⟩)
  have b0 : decide (1024 < (s.size : Int)) = false := decide_eq_false (by omega)
  clear hs h1 h2 hx0 hd hx1 hx2 hx3 hy2 hy3
  have hmf : ∀ (fn : Fn) (first cap : Array Value) (w : World), (Instr.makeFunc fn first cap).run Try.prog w = .ok (.func fn first cap) w := fun _ _ _ _ => rfl
  go_enter_defers Try.func12, Try.ntmps12
  go_upto_region 4 with (first | (go_at_call 25; (with_reducible refine (num_New.calls s s 0 (iW w) _ (Below.refl _ _) rfl).mono ?_); rintro e w1 ⟨g, rfl, hi, hb, _⟩; have HP0 := Aside0.mk (newP (w := w) 34 (iW_b0 w) (iW_b1 w) (by simp) hi (show Below w.heap.size w w1 from (below_alloc (below_alloc (Below.refl _ _) _) _).trans (hb.mono (by simp; omega))) hb); have r4 := cellAt (i := 0) HP0.out.box rfl; clear hi hb) | (go_at_call 27; (with_reducible refine (reader_num g s 0 1 w _ HP0.out.rd HP0.out.bel (by omega) (by have := HN.out; omega) (by omega) (by omega) HS.out).mono ?_); clear r4; rintro e w2 ⟨rfl, hi, hb, hk⟩; rw [← HX0.out]; have HP1 := Aside0.mk (HP0.out.call (show IsS93 w w2 g s 1 by simpa using hi) hb hk); have r4 := cellAt (i := 0) HP1.out.box rfl; have k0 := cellAt (i := 0) HP1.out.t2 rfl; have f0 := blk_frozen HP1.out.t2 0; clear hi hb hk))
  have HP2 := Aside0.mk (show PS 34 w (w2.setCell ⟨w.heap.size, 0, none⟩ (.int .i64 4)) g w1.heap.size s 1 #[.int .i64 4, .string ⟨#[]⟩, .int .u32 0, .int .u64 0, .bool false, .bool false, .int .u64 0, .int .u64 0, .int .i64 0, .int .u64 0, .slice none 0 0, .int .u64 0, .int .u64 0, .int .i64 0, .int .u64 0, .int .u64 0, .int .i64 0, .int .i64 0] from HP1.out.set 0 _)
  clear r4 k0 f0
  generalize w2.setCell ⟨w.heap.size, 0, none⟩ (.int .i64 4) = W2 at HP2 ⊢
  have r4 := cellAt (i := 0) HP2.out.box rfl
  have k0 := cellAt (i := 0) HP2.out.t2 rfl
  go_wp2_with (first | (go_at_call 26; (with_reducible refine (bad_no _ _).mono ?_); rintro e w_ ⟨rfl, rfl⟩))
  refine start_ (n := 17) (S := fun w' => w'.cell? ⟨w1.heap.size, 0, none⟩ = some (.pointer (some ⟨g, 0, none⟩))) (ds := []) #[false, false, false, false, false, false, false, false, false, false, false, false, false, false, false, false, false] (by kernel_rfl) rfl rfl (show _ = _ from r4) (fun hHeld => ?_)
  have HPd := Aside0.mk (HP2.out.below (W1 := W2.drew) (below_drew (Below.refl _ _)))
  generalize W2.drew = wd at HPd hHeld ⊢
  refine pure_ (i := 0) (N := some 65) (v := ?_) (a' := ?_) #[true, false, false, false, false, false, false, false, false, false, false, false, false, false, false, false, false] rfl rfl (by kernel_rfl) (fun c a w h => hq12 65 (by decide) (by decide) _ c a w h) (Or.inl ⟨by rfl, ?_⟩) ?_ ?_
  rotate_left
  · intro w'
    go_simp
    with_reducible rfl
  rotate_left
  · simp only [Act.put, List.setIfInBounds_toArray, List.set_cons_zero, List.set_cons_succ, i64_w, i32_w]
    rfl
  refine take_ (i := 1) (N := some 66) (v := ?_) (a' := ?_) #[true, true, false, false, false, false, false, false, false, false, false, false, false, false, false, false, false] rfl rfl (by kernel_rfl) (fun c a w h => hq12 66 (by decide) (by decide) _ c a w h) (Or.inl ⟨by rfl, ?_⟩) hHeld ?_ ?_
  rotate_left
  · rintro w' s0
    go_simp
    with_reducible rfl
  rotate_left
  · simp only [Act.put, List.setIfInBounds_toArray, List.set_cons_zero, List.set_cons_succ, i64_w, i32_w]
    rfl
  refine pure_ (i := 3) (N := some 68) (v := ?_) (a' := ?_) #[true, true, false, true, false, false, false, false, false, false, false, false, false, false, false, false, false] rfl rfl (by kernel_rfl) (fun c a w h => hq12 68 (by decide) (by decide) _ c a w h) (Or.inl ⟨by rfl, ?_⟩) ?_ ?_
  rotate_left
  · intro w'
    go_simp
    with_reducible rfl
  rotate_left
  · simp only [Act.put, List.setIfInBounds_toArray, List.set_cons_zero, List.set_cons_succ, i64_w, i32_w]
    rfl
  refine take_ (i := 4) (N := some 69) (v := ?_) (a' := ?_) #[true, true, false, true, true, false, false, false, false, false, false, false, false, false, false, false, false] rfl rfl (by kernel_rfl) (fun c a w h => hq12 69 (by decide) (by decide) _ c a w h) (Or.inl ⟨by rfl, ?_⟩) hHeld ?_ ?_
  rotate_left
  · rintro w' s0
    go_simp
    with_reducible rfl
  rotate_left
  · simp only [Act.put, List.setIfInBounds_toArray, List.set_cons_zero, List.set_cons_succ, i64_w, i32_w]
    rfl
  refine pure_ (i := 7) (N := some 72) (v := ?_) (a' := ?_) #[true, true, false, true, true, false, false, true, false, false, false, false, false, false, false, false, false] rfl rfl (by kernel_rfl) (fun c a w h => hq12 72 (by decide) (by decide) _ c a w h) (Or.inl ⟨by rfl, ?_⟩) ?_ ?_
  rotate_left
  · intro w'
    go_simp
    with_reducible rfl
  rotate_left
  · simp only [Act.put, List.setIfInBounds_toArray, List.set_cons_zero, List.set_cons_succ, i64_w, i32_w]
    rfl
  refine take_ (i := 8) (N := some 73) (v := ?_) (a' := ?_) #[true, true, false, true, true, false, false, true, true, false, false, false, false, false, false, false, false] rfl rfl (by kernel_rfl) (fun c a w h => hq12 73 (by decide) (by decide) _ c a w h) (Or.inl ⟨by rfl, ?_⟩) hHeld ?_ ?_
  rotate_left
  · rintro w' s0
    go_simp
    with_reducible rfl
  rotate_left
  · simp only [Act.put, List.setIfInBounds_toArray, List.set_cons_zero, List.set_cons_succ, i64_w, i32_w]
    rfl
  refine one_ (i := 2) (N := some 67) #[true, true, true, true, true, false, false, true, true, false, false, false, false, false, false, false, false] rfl rfl (by kernel_rfl) (by decide) (fun K hK => ?_)
  refine goes_ Try.func27 (by kernel_rfl) rfl #[.pointer (some ⟨g, 0, none⟩), .int .i64 8] (by rfl) rfl rfl (by (try simp only [List.map_toArray, List.map_cons, List.map_nil]); first | done | rfl) ?_
  with_reducible refine (reader_num g s 1 8 w _ HPd.out.rd HPd.out.bel (by omega) (by have := HN.out; omega) (by omega) (by omega) HS.out).mono ?_
  rintro e wd0 ⟨rfl, hi, hb, hk⟩
  rw [← HX1.out]
  refine ⟨_, rfl, ?_⟩
  have HPd0 := Aside0.mk (HPd.out.call (show IsS93 w wd0 g s 9 by simpa using hi) hb hk)
  clear hi hb hk
  refine hK.out _ _ (cellAt (i := 0) HPd0.out.box rfl) (fun hHeld => ?_)
  clear hK K
  refine norm_ (a' := ?_) ?_ ?_
  rotate_left
  · show Act.put _ (some 67) _ = _
    simp only [Act.put, List.setIfInBounds_toArray, List.set_cons_zero, List.set_cons_succ, i64_w, i32_w]
    rfl
  refine pure_ (i := 11) (N := some 76) (v := ?_) (a' := ?_) #[true, true, true, true, true, false, false, true, true, false, false, true, false, false, false, false, false] rfl rfl (by kernel_rfl) (fun c a w h => hq12 76 (by decide) (by decide) _ c a w h) (Or.inl ⟨by rfl, ?_⟩) ?_ ?_
  rotate_left
  · intro w'
    go_simp
    with_reducible rfl
  rotate_left
  · simp only [Act.put, List.setIfInBounds_toArray, List.set_cons_zero, List.set_cons_succ, i64_w, i32_w]
    rfl
  refine one_ (i := 5) (N := some 70) #[true, true, true, true, true, true, false, true, true, false, false, true, false, false, false, false, false] rfl rfl (by kernel_rfl) (by decide) (fun K hK => ?_)
  refine goes_ Try.func27 (by kernel_rfl) rfl #[.pointer (some ⟨g, 0, none⟩), .int .i64 2] (by rfl) rfl rfl (by (try simp only [List.map_toArray, List.map_cons, List.map_nil]); first | done | rfl) ?_
  with_reducible refine (reader_num g s 9 2 w _ HPd0.out.rd HPd0.out.bel (by omega) (by have := HN.out; omega) (by omega) (by omega) HS.out).mono ?_
  rintro e wd1 ⟨rfl, hi, hb, hk⟩
  rw [← HX2.out]
  refine ⟨_, rfl, ?_⟩
  have HPd1 := Aside0.mk (HPd0.out.call (show IsS93 w wd1 g s 11 by simpa using hi) hb hk)
  clear hi hb hk
  refine hK.out _ _ (cellAt (i := 0) HPd1.out.box rfl) (fun hHeld => ?_)
  clear hK K
  refine norm_ (a' := ?_) ?_ ?_
  rotate_left
  · show Act.put _ (some 70) _ = _
    simp only [Act.put, List.setIfInBounds_toArray, List.set_cons_zero, List.set_cons_succ, i64_w, i32_w]
    rfl
  refine pure_ (i := 6) (N := some 71) (v := ?_) (a' := ?_) #[true, true, true, true, true, true, true, true, true, false, false, true, false, false, false, false, false] rfl rfl (by kernel_rfl) (fun c a w h => hq12 71 (by decide) (by decide) _ c a w h) (Or.inl ⟨by rfl, ?_⟩) ?_ ?_
  rotate_left
  · intro w'
    go_simp
    with_reducible rfl
  rotate_left
  · simp only [Act.put, List.setIfInBounds_toArray, List.set_cons_zero, List.set_cons_succ, i64_w, i32_w]
    rfl
  refine one_ (i := 9) (N := some 74) #[true, true, true, true, true, true, true, true, true, true, false, true, false, false, false, false, false] rfl rfl (by kernel_rfl) (by decide) (fun K hK => ?_)
  refine goes_ Try.func27 (by kernel_rfl) rfl #[.pointer (some ⟨g, 0, none⟩), .int .i64 2] (by rfl) rfl rfl (by (try simp only [List.map_toArray, List.map_cons, List.map_nil]); first | done | rfl) ?_
  with_reducible refine (reader_num g s 11 2 w _ HPd1.out.rd HPd1.out.bel (by omega) (by have := HN.out; omega) (by omega) (by omega) HS.out).mono ?_
  rintro e wd2 ⟨rfl, hi, hb, hk⟩
  rw [← HX3.out]
  refine ⟨_, rfl, ?_⟩
  have HPd2 := Aside0.mk (HPd1.out.call (show IsS93 w wd2 g s 13 by simpa using hi) hb hk)
  clear hi hb hk
  refine hK.out _ _ (cellAt (i := 0) HPd2.out.box rfl) (fun hHeld => ?_)
  clear hK K
  refine norm_ (a' := ?_) ?_ ?_
  rotate_left
  · show Act.put _ (some 74) _ = _
    simp only [Act.put, List.setIfInBounds_toArray, List.set_cons_zero, List.set_cons_succ, i64_w, i32_w]
    rfl
  refine pure_ (i := 10) (N := some 75) (v := ?_) (a' := ?_) #[true, true, true, true, true, true, true, true, true, true, true, true, false, false, false, false, false] rfl rfl (by kernel_rfl) (fun c a w h => hq12 75 (by decide) (by decide) _ c a w h) (Or.inl ⟨by rfl, ?_⟩) ?_ ?_
  rotate_left
  · intro w'
    go_simp
    with_reducible rfl
  rotate_left
  · simp only [Act.put, List.setIfInBounds_toArray, List.set_cons_zero, List.set_cons_succ, i64_w, i32_w]
    rfl
  have s15 := cellAt (i := 15) HPd2.out.t2 rfl
  have f15 := blk_frozen HPd2.out.t2 15
  refine one_ (i := 12) (N := none) #[true, true, true, true, true, true, true, true, true, true, true, true, true, false, false, false, false] rfl rfl (by kernel_rfl) (by decide) (fun K hK => ?_)
  refine skip_ (w1 := ?_) (by rfl) rfl ?_ ?_
  rotate_left
  · go_simp
    rfl
  have HPs0 := Aside0.mk (HPd2.out.set 15 (.int .u64 x1))
  refine hK.out _ _ (cellAt (i := 0) HPs0.out.box rfl) (fun hHeld => ?_)
  clear hK K s15 f15
  generalize wd2.setCell ⟨w.heap.size, 15, none⟩ (.int .u64 x1) = ws0 at HPs0 hHeld ⊢
  refine pure_ (i := 13) (N := some 77) (v := ?_) (a' := ?_) #[true, true, true, true, true, true, true, true, true, true, true, true, true, true, false, false, false] rfl rfl (by kernel_rfl) (fun c a w h => hq12 77 (by decide) (by decide) _ c a w h) (Or.inl ⟨by rfl, ?_⟩) ?_ ?_
  rotate_left
  · intro w'
    go_simp
    with_reducible rfl
  rotate_left
  · simp only [Act.put, List.setIfInBounds_toArray, List.set_cons_zero, List.set_cons_succ, i64_w, i32_w]
    rfl
  have s16 := cellAt (i := 16) HPs0.out.t2 rfl
  have f16 := blk_frozen HPs0.out.t2 16
  refine one_ (i := 14) (N := none) #[true, true, true, true, true, true, true, true, true, true, true, true, true, true, true, false, false] rfl rfl (by kernel_rfl) (by decide) (fun K hK => ?_)
  refine skip_ (w1 := ?_) (by rfl) rfl ?_ ?_
  rotate_left
  · go_simp
    rfl
  have HPs1 := Aside0.mk (HPs0.out.set 16 (.int .i64 y2))
  refine hK.out _ _ (cellAt (i := 0) HPs1.out.box rfl) (fun hHeld => ?_)
  clear hK K s16 f16
  generalize ws0.setCell ⟨w.heap.size, 16, none⟩ (.int .i64 y2) = ws1 at HPs1 hHeld ⊢
  refine pure_ (i := 15) (N := some 78) (v := ?_) (a' := ?_) #[true, true, true, true, true, true, true, true, true, true, true, true, true, true, true, true, false] rfl rfl (by kernel_rfl) (fun c a w h => hq12 78 (by decide) (by decide) _ c a w h) (Or.inl ⟨by rfl, ?_⟩) ?_ ?_
  rotate_left
  · intro w'
    go_simp
    with_reducible rfl
  rotate_left
  · simp only [Act.put, List.setIfInBounds_toArray, List.set_cons_zero, List.set_cons_succ, i64_w, i32_w]
    rfl
  have s17 := cellAt (i := 17) HPs1.out.t2 rfl
  have f17 := blk_frozen HPs1.out.t2 17
  refine one_ (i := 16) (N := none) #[true, true, true, true, true, true, true, true, true, true, true, true, true, true, true, true, true] rfl rfl (by kernel_rfl) (by decide) (fun K hK => ?_)
  refine skip_ (w1 := ?_) (by rfl) rfl ?_ ?_
  rotate_left
  · go_simp
    rfl
  have HPs2 := Aside0.mk (HPs1.out.set 17 (.int .i64 y3))
  refine hK.out _ _ (cellAt (i := 0) HPs2.out.box rfl) (fun hHeld => ?_)
  clear hK K s17 f17
  generalize ws1.setCell ⟨w.heap.size, 17, none⟩ (.int .i64 y3) = ws2 at HPs2 hHeld ⊢
  refine done_ (by kernel_rfl) ?_
  clear r4 k0
  have HP3 := Aside0.mk (show PS 34 w ws2 g w1.heap.size s 13 #[.int .i64 4, .string ⟨#[]⟩, .int .u32 0, .int .u64 0, .bool false, .bool false, .int .u64 0, .int .u64 0, .int .i64 0, .int .u64 0, .slice none 0 0, .int .u64 0, .int .u64 0, .int .i64 0, .int .u64 0, .int .u64 x1, .int .i64 y2, .int .i64 y3] from HPs2.out)
  have r4 := cellAt (i := 0) HP3.out.box rfl
  have k0 := cellAt (i := 0) HP3.out.t2 rfl
  clear hHeld
  go_upto_region 18 with fail
  go_cut [92] from 87 to 93 (fun v92 wx => Aside0 (PS 34 w wx g w1.heap.size s (13 + ((s.size : Int) - 13)) #[.int .i64 4, .string d, .int .u32 0, .int .u64 0, .bool false, .bool false, .int .u64 0, .int .u64 0, .int .i64 0, .int .u64 0, .slice none 0 0, .int .u64 0, .int .u64 0, .int .i64 0, .int .u64 0, .int .u64 x1, .int .i64 y2, .int .i64 y3]))
  case first =>
    refine wp_onlyN ?_
    have HPd := Aside0.mk (HP3.out.below (W1 := ws2.drew) (below_drew (Below.refl _ _)))
    go_region_with (first
      | (go_at_call 36; (with_reducible refine (reader_left g s 13 w _ HPd.out.rd HPd.out.bel (by omega) (by have := HN.out; omega) HS.out).mono ?_); rintro e w5 ⟨rfl, hi, hb, hk⟩; have HPe := Aside0.mk (HPd.out.call hi hb hk); have r5 := cellAt (i := 0) HPe.out.box rfl; clear hi hb hk)
      | (go_at_call 35; (with_reducible refine (reader_text g s 13 _ w _ HPe.out.rd HPe.out.bel (by omega) (by have := HN.out; omega) (by have := HN.out; omega) HS.out).mono ?_); rintro e w6 ⟨rfl, hi, hb, hk⟩; have HPf := Aside0.mk (HPe.out.call hi hb hk); have k1 := cellAt (i := 1) HPf.out.t2 rfl; have f1 := blk_frozen HPf.out.t2 1; rw [show s.extract ((13 : Int)).toNat ((13 : Int) + ((s.size : Int) - 13)).toNat = d from HD.out.symm]; clear hi hb hk))
    all_goals
      dsimp only [OnlyN]
      go_wp2_with fail
      go_meet
      case rel => exact ⟨HPf.out.set 1 _⟩
  case rest =>
    clear r4 k0
    have HP4 := hcut
    have r4 := cellAt (i := 0) HP4.out.box rfl
    go_wp2_with (first | (go_at_call 29; (with_reducible refine (reader_end g s (13 + ((s.size : Int) - 13)) w _ HP4.out.rd HP4.out.bel (by have := HN.out; omega) (by have := HN.out; omega) HS.out).mono ?_); clear r4; rintro e w9 ⟨rfl, hb, hk⟩; have HT9 := Aside0.mk (hk.blk HP4.out.t2 (by have := HP4.out.gg; omega) (by simp)); have HU9 := Aside0.mk (hk.blk HP4.out.t3 (by have := HP4.out.gg; omega) (by simp)); have HB9 := Aside0.mk hb; clear hb hk) | ((with_reducible refine gate_dst (N := 96) rfl ?_); refine load_event rfl (.tmp 2) 34 rfl rfl (load34 HT9.out) ?_) | ((with_reducible refine gate_store (t := 34) (p := 2) rfl ?_); refine store_row_event rfl (ty := 34) (p := 2) rfl rfl w.heap.size #[.int .i64 4, .string d, .int .u32 0, .int .u64 0, .bool false, .bool false, .int .u64 0, .int .u64 0, .int .i64 0, .int .u64 0, .slice none 0 0, .int .u64 0, .int .u64 0, .int .i64 0, .int .u64 0, .int .u64 x1, .int .i64 y2, .int .i64 y3] rfl rfl 34 #[.int .i64 4, .string d, .int .u32 0, .int .u64 0, .bool false, .bool false, .int .u64 0, .int .u64 0, .int .i64 0, .int .u64 0, .slice none 0 0, .int .u64 0, .int .u64 0, .int .i64 0, .int .u64 0, .int .u64 x1, .int .i64 y2, .int .i64 y3] HT9.out (by kernel_rfl) rfl (by simp [Value.oneCell']) ?_; intro w10 h10; have P10 := Aside0.mk h10; have K3 := Aside0.mk ((h10.far (w.heap.size + 1) (by omega)).trans HU9.out); have d0 := cellAt (i := 0) K3.out rfl; have e0 := blk_frozen K3.out 0; clear h10))
    refine leaves_cons (f := 33) (args := #[.pointer (some ⟨w.heap.size, 0, none⟩), .pointer (some ⟨w.heap.size + 1, 0, none⟩)]) (by simp) (by simp [go_sem]) ?_
    refine (parseItem_idle w.heap.size (w.heap.size + 1) _).mono ?_
    rintro e u' w'' ⟨rfl, rfl, rfl⟩
    have k2 := blk_far (p := ⟨w.heap.size + 1, 0, none⟩) P10.out.at_ (show w.heap.size ≠ w.heap.size + 1 by omega) (.int .i64 0)
    refine ⟨_, results_cells2 rfl rfl rfl (run_loadVar_row (P := Try.prog) _ w.heap.size 34 34 _ (0, 0) _ k2 Try.underlying34 rfl (by kernel_rfl)) (load_err (blk_set K3.out 0 _)), ?_⟩
    have hbe := below_set (g := w.heap.size + 1) (j := 0) (v := .int .i64 0) (P10.out.bel w HB9.out (Nat.le_refl _)) (show w.heap.size ≤ w.heap.size + 1 by omega)
    exact ⟨rfl, hbe⟩
end Go.Proofs.Ytlkemknhmfjdpaa.P
