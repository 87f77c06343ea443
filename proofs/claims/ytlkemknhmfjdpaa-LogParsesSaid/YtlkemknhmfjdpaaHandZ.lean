import Derived.Test.YtlkemknhmfjdpaaHandV1
import Derived.Test.YtlkemknhmfjdpaaHandI
import Derived.Deep.RegionWith
import Derived.RegionCalls
/- Parse's contract, by hand. -/
namespace Go.Proofs.Ytlkemknhmfjdpaa.P
open Go.RowKit Go.Proofs.YtlkemknhmfjdpaaW.PrintWords Go.Proofs.YtlkemknhmfjdpaaW.PrintLast Go.Proofs.YtlkemknhmfjdpaaW.PrintMore
attribute [local go_sem] max2_int min2_int max_two min_two max_three min_three max_four min_four
set_option linter.unusedVariables false
set_option linter.unusedSimpArgs false

theorem blk_far7 {w : World} {g b t : Nat} {cs : Array Value} (h : w.heap[g]? = some (.cells cs t (0, 0))) (hn : g ≠ b) (u0 u1 u2 u3 u4 u5 u6 : Value) :
    (((((((w.setCell ⟨b, 0, none⟩ u0).setCell ⟨b, 1, none⟩ u1).setCell ⟨b, 2, none⟩ u2).setCell ⟨b, 3, none⟩ u3).setCell ⟨b, 4, none⟩ u4).setCell ⟨b, 5, none⟩ u5).setCell ⟨b, 6, none⟩ u6).heap[g]? = some (.cells cs t (0, 0)) :=
  blk_far (p := ⟨b, 6, none⟩) (blk_far (p := ⟨b, 5, none⟩) (blk_far (p := ⟨b, 4, none⟩) (blk_far (p := ⟨b, 3, none⟩) (blk_far (p := ⟨b, 2, none⟩) (blk_far (p := ⟨b, 1, none⟩) (blk_far (p := ⟨b, 0, none⟩) h hn u0) hn u1) hn u2) hn u3) hn u4) hn u5) hn u6
set_option maxHeartbeats 8000000 in
set_option maxRecDepth 100000 in
theorem parse_rec (s : ByteArray) (w : World) (hs : s.size ≤ 1000000) (c : Int) (h1 : 13 ≤ s.size) (h2 : numAt s 0 1 = 1) (h3 : recE s 13 = c) (hc : c ≠ 0) :
    Calls Try.prog 8 #[.string s] w fun e w' => e = .returned (.tuple #[.agg #[.int .u64 0, .int .u32 0, .int .u64 0, .int .u64 0, .int .i64 0, .int .u64 0, .slice none 0 0], .int .i64 c]) ∧ Below w.heap.size w w' := by
  obtain ⟨x0, hx0⟩ : ∃ x, x = numAt s 0 1 := ⟨_, rfl⟩
  have HX0 := Aside0.mk hx0
  obtain ⟨x1, hx1⟩ : ∃ x, x = numAt s 1 8 := ⟨_, rfl⟩
  have HX1 := Aside0.mk hx1
  obtain ⟨x2, hx2⟩ : ∃ x, x = numAt s 9 4 := ⟨_, rfl⟩
  have HX2 := Aside0.mk hx2
  obtain ⟨y2, hy2⟩ : ∃ y, y = IntKind.u32.wrap x2 := ⟨_, rfl⟩
  have HY2 := Aside0.mk hy2
  have hyr : IntKind.u32.wrap x2 = y2 := hy2.symm
  rw [← hx0] at h2
  have b0 : (x0 != 1) = false := by simpa using h2
  have HS := Aside0.mk hs
  have HN := Aside0.mk (show 13 ≤ s.size from h1)
  have HE := Aside0.mk h3
  have HCC := Aside0.mk hc
  clear hs h1 h2 h3 hx0 hx1 hx2 hy2
  have hmf : ∀ (fn : Fn) (first cap : Array Value) (w : World), (Instr.makeFunc fn first cap).run Try.prog w = .ok (.func fn first cap) w := fun _ _ _ _ => rfl
  go_enter_defers Try.func8, Try.ntmps8
  go_wp2_with (first | (go_at_call 25; (with_reducible refine (num_New.calls s s 0 (pW w) _ (Below.refl _ _) rfl).mono ?_); rintro e w1 ⟨g, rfl, hi, hb, _⟩; have HP0 := Aside0.mk (newP (w := w) 32 (pW_b0 w) (pW_b1 w) (by simp) hi (show Below w.heap.size w w1 from (below_alloc (below_alloc (Below.refl _ _) _) _).trans (hb.mono (by simp; omega))) hb); have r4 := cellAt (i := 0) HP0.out.box rfl; clear hi hb) | (go_at_call 27; (with_reducible refine (reader_num g s 0 1 w _ HP0.out.rd HP0.out.bel (by omega) (by have := HN.out; omega) (by omega) (by omega) HS.out).mono ?_); clear r4; rintro e w_HP1 ⟨rfl, hi, hb, hk⟩; rw [← HX0.out]; have HP1 := Aside0.mk (HP0.out.call (show IsS93 w w_HP1 g s 1 by simpa using hi) hb hk); have r4 := cellAt (i := 0) HP1.out.box rfl; clear hi hb hk) | (go_at_call 26; (with_reducible refine (bad_no _ _).mono ?_); rintro e w_ ⟨rfl, rfl⟩))
  have HPd := Aside0.mk (HP1.out.below (W1 := w_HP1.drew) (below_drew (Below.refl _ _)))
  go_cut [16] from 14 to 23 (fun v16 wx => Aside0 (PS 32 w wx g w1.heap.size s 13 #[.int .u64 x1, .int .u32 y2, .int .u64 0, .int .u64 0, .int .i64 0, .int .u64 0, .slice none 0 0]))
  case first =>
    refine wp_onlyN ?_
    go_region_with (first
      | (go_at_call 27; (with_reducible refine (reader_num g s 1 8 w _ HPd.out.rd HPd.out.bel (by omega) (by have := HN.out; omega) (by omega) (by omega) HS.out).mono ?_); rintro e w5 ⟨rfl, hi, hb, hk⟩; rw [← HX1.out]; have HP2 := Aside0.mk (HPd.out.call (show IsS93 w w5 g s 9 by simpa using hi) hb hk); have r5 := cellAt (i := 0) HP2.out.box rfl; clear hi hb hk)
      | (go_at_call 27; (with_reducible refine (reader_num g s 9 4 w _ HP2.out.rd HP2.out.bel (by omega) (by have := HN.out; omega) (by omega) (by omega) HS.out).mono ?_); rintro e w6 ⟨rfl, hi, hb, hk⟩; rw [← HX2.out]; have HP3 := Aside0.mk (HP2.out.call (show IsS93 w w6 g s 13 by simpa using hi) hb hk); have s0 := cellAt (i := 0) HP3.out.t2 rfl; have s1 := cellAt (i := 1) HP3.out.t2 rfl; have f0 := blk_frozen HP3.out.t2 0; have f1 := blk_frozen HP3.out.t2 1; clear hi hb hk))
    all_goals
      dsimp only [OnlyN]
      go_wp2_with fail
      go_meet
      case rel => exact ⟨(HP3.out.set 0 _).set 1 _⟩
  case rest =>
    clear r4
    have HP4 := hcut
    have r4 := cellAt (i := 0) HP4.out.box rfl
    go_wp2_with (go_at_call 28; (with_reducible refine (reader_record_bad g s 13 w _ HP4.out.rd HP4.out.bel (by omega) HS.out c (by have := HN.out; omega) HE.out HCC.out).mono ?_); clear r4; rintro e w9 ⟨rfl, hb, hk⟩; have HRB := Aside0.mk (show _ ∧ _ ∧ Below w.heap.size w _ from ⟨hk.blk HP4.out.t2 (by have := HP4.out.gg; omega) (by simp), hk.blk HP4.out.t3 (by have := HP4.out.gg; omega) (by simp), hb⟩); clear hb hk)
    refine leaves_cons (f := 24) (args := #[.pointer (some ⟨w.heap.size, 0, none⟩), .pointer (some ⟨w.heap.size + 1, 0, none⟩)]) (by simp) (by simp [go_sem]) ?_
    refine (parse_catch w.heap.size (w.heap.size + 1) _ _ _ _ _ _ _ 0 c HCC.out _ HRB.out.1 HRB.out.2.1).mono ?_
    rintro e u' w'' ⟨rfl, rfl, k0, k1, hbl⟩
    have hb := hbl w HRB.out.2.2 (Nat.le_refl _) (by omega)
    exact ⟨_, results_cells2 rfl rfl rfl (run_loadVar_row (P := Try.prog) w'' w.heap.size 32 32 _ (0, 0) _ k0 Try.underlying32 rfl (by kernel_rfl)) (load_err k1), rfl, hb⟩
set_option maxHeartbeats 8000000 in
set_option maxRecDepth 100000 in
theorem parse_end (s : ByteArray) (w : World) (hs : s.size ≤ 1000000) (h1 : 13 ≤ s.size) (h2 : numAt s 0 1 = 1) (h3 : recE s 13 = 0) (h4 : 13 + 26 + 25 * ((recN s 13).toNat : Int) < s.size) :
    Calls Try.prog 8 #[.string s] w fun e w' => e = .returned (.tuple #[.agg #[.int .u64 0, .int .u32 0, .int .u64 0, .int .u64 0, .int .i64 0, .int .u64 0, .slice none 0 0], .int .i64 4]) ∧ Below w.heap.size w w' := by
  obtain ⟨x0, hx0⟩ : ∃ x, x = numAt s 0 1 := ⟨_, rfl⟩
  have HX0 := Aside0.mk hx0
  obtain ⟨x1, hx1⟩ : ∃ x, x = numAt s 1 8 := ⟨_, rfl⟩
  have HX1 := Aside0.mk hx1
  obtain ⟨x2, hx2⟩ : ∃ x, x = numAt s 9 4 := ⟨_, rfl⟩
  have HX2 := Aside0.mk hx2
  obtain ⟨y2, hy2⟩ : ∃ y, y = IntKind.u32.wrap x2 := ⟨_, rfl⟩
  have HY2 := Aside0.mk hy2
  have hyr : IntKind.u32.wrap x2 = y2 := hy2.symm
  rw [← hx0] at h2
  have b0 : (x0 != 1) = false := by simpa using h2
  have HS := Aside0.mk hs
  have HN := Aside0.mk (show 13 ≤ s.size from h1)
  obtain ⟨xv, hxv⟩ : ∃ x, x = viewAt s 13 := ⟨_, rfl⟩
  have HXV := Aside0.mk hxv
  obtain ⟨l, hl⟩ : ∃ l, l = viewsAt s (recN s 13).toNat (13 + 26) := ⟨_, rfl⟩
  have HL := Aside0.mk hl
  obtain ⟨q, hq⟩ : ∃ q, q = 13 + 26 + 25 * ((recN s 13).toNat : Int) := ⟨_, rfl⟩
  have HQ := Aside0.mk hq
  have HE := Aside0.mk h3
  rw [← hq] at h4
  have H4 := Aside0.mk h4
  clear h4 hxv hl hq
  clear hs h1 h2 h3 hx0 hx1 hx2 hy2
  have hmf : ∀ (fn : Fn) (first cap : Array Value) (w : World), (Instr.makeFunc fn first cap).run Try.prog w = .ok (.func fn first cap) w := fun _ _ _ _ => rfl
  go_enter_defers Try.func8, Try.ntmps8
  go_wp2_with (first | (go_at_call 25; (with_reducible refine (num_New.calls s s 0 (pW w) _ (Below.refl _ _) rfl).mono ?_); rintro e w1 ⟨g, rfl, hi, hb, _⟩; have HP0 := Aside0.mk (newP (w := w) 32 (pW_b0 w) (pW_b1 w) (by simp) hi (show Below w.heap.size w w1 from (below_alloc (below_alloc (Below.refl _ _) _) _).trans (hb.mono (by simp; omega))) hb); have r4 := cellAt (i := 0) HP0.out.box rfl; clear hi hb) | (go_at_call 27; (with_reducible refine (reader_num g s 0 1 w _ HP0.out.rd HP0.out.bel (by omega) (by have := HN.out; omega) (by omega) (by omega) HS.out).mono ?_); clear r4; rintro e w_HP1 ⟨rfl, hi, hb, hk⟩; rw [← HX0.out]; have HP1 := Aside0.mk (HP0.out.call (show IsS93 w w_HP1 g s 1 by simpa using hi) hb hk); have r4 := cellAt (i := 0) HP1.out.box rfl; clear hi hb hk) | (go_at_call 26; (with_reducible refine (bad_no _ _).mono ?_); rintro e w_ ⟨rfl, rfl⟩))
  have HPd := Aside0.mk (HP1.out.below (W1 := w_HP1.drew) (below_drew (Below.refl _ _)))
  go_cut [16] from 14 to 23 (fun v16 wx => Aside0 (PS 32 w wx g w1.heap.size s 13 #[.int .u64 x1, .int .u32 y2, .int .u64 0, .int .u64 0, .int .i64 0, .int .u64 0, .slice none 0 0]))
  case first =>
    refine wp_onlyN ?_
    go_region_with (first
      | (go_at_call 27; (with_reducible refine (reader_num g s 1 8 w _ HPd.out.rd HPd.out.bel (by omega) (by have := HN.out; omega) (by omega) (by omega) HS.out).mono ?_); rintro e w5 ⟨rfl, hi, hb, hk⟩; rw [← HX1.out]; have HP2 := Aside0.mk (HPd.out.call (show IsS93 w w5 g s 9 by simpa using hi) hb hk); have r5 := cellAt (i := 0) HP2.out.box rfl; clear hi hb hk)
      | (go_at_call 27; (with_reducible refine (reader_num g s 9 4 w _ HP2.out.rd HP2.out.bel (by omega) (by have := HN.out; omega) (by omega) (by omega) HS.out).mono ?_); rintro e w6 ⟨rfl, hi, hb, hk⟩; rw [← HX2.out]; have HP3 := Aside0.mk (HP2.out.call (show IsS93 w w6 g s 13 by simpa using hi) hb hk); have s0 := cellAt (i := 0) HP3.out.t2 rfl; have s1 := cellAt (i := 1) HP3.out.t2 rfl; have f0 := blk_frozen HP3.out.t2 0; have f1 := blk_frozen HP3.out.t2 1; clear hi hb hk))
    all_goals
      dsimp only [OnlyN]
      go_wp2_with fail
      go_meet
      case rel => exact ⟨(HP3.out.set 0 _).set 1 _⟩
  case rest =>
    clear r4
    have HP4 := hcut
    have r4 := cellAt (i := 0) HP4.out.box rfl
    go_upto_region 6 with ((go_at_call 28; (with_reducible refine (reader_record_good g s 13 w _ HP4.out.rd HP4.out.bel (by omega) HS.out HE.out xv HXV.out l HL.out q HQ.out).mono ?_); clear r4; rintro e w7 ⟨v7, rfl, ho, hi, hb, hk⟩; obtain ⟨A7, c7, rfl⟩ := Kd.R_slice ho; have HP5 := Aside0.mk (HP4.out.call hi hb hk); have HO5 := Aside0.mk (Kd.R_lower ho HP4.out.bel.size); have r4 := cellAt (i := 0) HP5.out.box rfl; have s2 := cellAt (i := 2) HP5.out.t2 rfl; have s3 := cellAt (i := 3) HP5.out.t2 rfl; have s4 := cellAt (i := 4) HP5.out.t2 rfl; have s5 := cellAt (i := 5) HP5.out.t2 rfl; have s6 := cellAt (i := 6) HP5.out.t2 rfl; have f2 := blk_frozen HP5.out.t2 2; have f3 := blk_frozen HP5.out.t2 3; have f4 := blk_frozen HP5.out.t2 4; have f5 := blk_frozen HP5.out.t2 5; have f6 := blk_frozen HP5.out.t2 6; clear ho hi hb hk))
    have HP6 := Aside0.mk (show PS 32 w (((((w7.setCell ⟨w.heap.size, 2, none⟩ (.int .u64 xv.f0)).setCell ⟨w.heap.size, 3, none⟩ (.int .u64 xv.f1.f0)).setCell ⟨w.heap.size, 4, none⟩ (.int .i64 xv.f1.f1)).setCell ⟨w.heap.size, 5, none⟩ (.int .u64 xv.f2)).setCell ⟨w.heap.size, 6, none⟩ (.slice A7 l.length c7)) g w1.heap.size s q #[.int .u64 x1, .int .u32 y2, .int .u64 xv.f0, .int .u64 xv.f1.f0, .int .i64 xv.f1.f1, .int .u64 xv.f2, .slice A7 l.length c7] from (((((HP5.out.set 2 (.int .u64 xv.f0)).set 3 (.int .u64 xv.f1.f0)).set 4 (.int .i64 xv.f1.f1)).set 5 (.int .u64 xv.f2)).set 6 (.slice A7 l.length c7)))
    have HO6 := Aside0.mk (show Kd.R k27 27 (((((w7.setCell ⟨w.heap.size, 2, none⟩ (.int .u64 xv.f0)).setCell ⟨w.heap.size, 3, none⟩ (.int .u64 xv.f1.f0)).setCell ⟨w.heap.size, 4, none⟩ (.int .i64 xv.f1.f1)).setCell ⟨w.heap.size, 5, none⟩ (.int .u64 xv.f2)).setCell ⟨w.heap.size, 6, none⟩ (.slice A7 l.length c7)) w.heap.size (fun _ => True) (.slice A7 l.length c7) l from Kd.R_mono (Kd.R_far (p := ⟨w.heap.size, 6, none⟩) (Kd.R_far (p := ⟨w.heap.size, 5, none⟩) (Kd.R_far (p := ⟨w.heap.size, 4, none⟩) (Kd.R_far (p := ⟨w.heap.size, 3, none⟩) (Kd.R_far (p := ⟨w.heap.size, 2, none⟩) (Kd.R_types HO5.out HP5.out.t2 (by decide)) (fun _ hk => hk.2) (.int .u64 xv.f0)) (fun _ hk => hk.2) (.int .u64 xv.f1.f0)) (fun _ hk => hk.2) (.int .i64 xv.f1.f1)) (fun _ hk => hk.2) (.int .u64 xv.f2)) (fun _ hk => hk.2) (.slice A7 l.length c7)) (ok' := fun _ => True) (fun _ _ => trivial))
    clear r4 s2 s3 s4 s5 s6 f2 f3 f4 f5 f6
    generalize (((((w7.setCell ⟨w.heap.size, 2, none⟩ (.int .u64 xv.f0)).setCell ⟨w.heap.size, 3, none⟩ (.int .u64 xv.f1.f0)).setCell ⟨w.heap.size, 4, none⟩ (.int .i64 xv.f1.f1)).setCell ⟨w.heap.size, 5, none⟩ (.int .u64 xv.f2)).setCell ⟨w.heap.size, 6, none⟩ (.slice A7 l.length c7)) = W6 at HP6 HO6 ⊢
    have r4 := cellAt (i := 0) HP6.out.box rfl
    go_wp2_with (go_at_call 29; (with_reducible refine (reader_end_bad g s q w _ HP6.out.rd HP6.out.bel (by have := HQ.out; omega) H4.out HS.out).mono ?_); clear r4; rintro e w9 ⟨rfl, hb, hk⟩; have HRB := Aside0.mk (show _ ∧ _ ∧ Below w.heap.size w _ from ⟨hk.blk HP6.out.t2 (by have := HP6.out.gg; omega) (by simp), hk.blk HP6.out.t3 (by have := HP6.out.gg; omega) (by simp), hb⟩); clear hb hk)
    refine leaves_cons (f := 24) (args := #[.pointer (some ⟨w.heap.size, 0, none⟩), .pointer (some ⟨w.heap.size + 1, 0, none⟩)]) (by simp) (by simp [go_sem]) ?_
    refine (parse_catch w.heap.size (w.heap.size + 1) _ _ _ _ _ _ _ 0 4 (by decide) _ HRB.out.1 HRB.out.2.1).mono ?_
    rintro e u' w'' ⟨rfl, rfl, k0, k1, hbl⟩
    have hb := hbl w HRB.out.2.2 (Nat.le_refl _) (by omega)
    exact ⟨_, results_cells2 rfl rfl rfl (run_loadVar_row (P := Try.prog) w'' w.heap.size 32 32 _ (0, 0) _ k0 Try.underlying32 rfl (by kernel_rfl)) (load_err k1), rfl, hb⟩
set_option maxHeartbeats 8000000 in
set_option maxRecDepth 100000 in
theorem parse_good (s : ByteArray) (w : World) (hs : s.size ≤ 1000000) (h1 : 13 ≤ s.size) (h2 : numAt s 0 1 = 1) (h3 : recE s 13 = 0) (h4 : 13 + 26 + 25 * ((recN s 13).toNat : Int) = s.size) :
    Calls Try.prog 8 #[.string s] w fun e w' => ∃ v : Value, e = .returned (.tuple #[.agg #[.int .u64 (numAt s 1 8), .int .u32 (IntKind.u32.wrap (numAt s 9 4)), .int .u64 (viewAt s 13).f0, .int .u64 (viewAt s 13).f1.f0, .int .i64 (viewAt s 13).f1.f1, .int .u64 (viewAt s 13).f2, v], .int .i64 0]) ∧ Kd.R k27 27 w' w.heap.size (fun _ => True) v (viewsAt s (recN s 13).toNat (13 + 26)) ∧ Below w.heap.size w w' := by
  obtain ⟨x0, hx0⟩ : ∃ x, x = numAt s 0 1 := ⟨_, rfl⟩
  have HX0 := Aside0.mk hx0
  obtain ⟨x1, hx1⟩ : ∃ x, x = numAt s 1 8 := ⟨_, rfl⟩
  have HX1 := Aside0.mk hx1
  obtain ⟨x2, hx2⟩ : ∃ x, x = numAt s 9 4 := ⟨_, rfl⟩
  have HX2 := Aside0.mk hx2
  obtain ⟨y2, hy2⟩ : ∃ y, y = IntKind.u32.wrap x2 := ⟨_, rfl⟩
  have HY2 := Aside0.mk hy2
  have hyr : IntKind.u32.wrap x2 = y2 := hy2.symm
  rw [← hx0] at h2
  have b0 : (x0 != 1) = false := by simpa using h2
  have HS := Aside0.mk hs
  have HN := Aside0.mk (show 13 ≤ s.size from h1)
  obtain ⟨xv, hxv⟩ : ∃ x, x = viewAt s 13 := ⟨_, rfl⟩
  have HXV := Aside0.mk hxv
  obtain ⟨l, hl⟩ : ∃ l, l = viewsAt s (recN s 13).toNat (13 + 26) := ⟨_, rfl⟩
  have HL := Aside0.mk hl
  obtain ⟨q, hq⟩ : ∃ q, q = 13 + 26 + 25 * ((recN s 13).toNat : Int) := ⟨_, rfl⟩
  have HQ := Aside0.mk hq
  have HE := Aside0.mk h3
  rw [← hq] at h4
  have H4 := Aside0.mk h4
  rw [← hx1, ← hx2, ← hy2, ← hxv, ← hl]
  clear h4 hxv hl hq hs h1 h2 h3 hx0 hx1 hx2 hy2
  have hmf : ∀ (fn : Fn) (first cap : Array Value) (w : World), (Instr.makeFunc fn first cap).run Try.prog w = .ok (.func fn first cap) w := fun _ _ _ _ => rfl
  go_enter_defers Try.func8, Try.ntmps8
  go_wp2_with (first | (go_at_call 25; (with_reducible refine (num_New.calls s s 0 (pW w) _ (Below.refl _ _) rfl).mono ?_); rintro e w1 ⟨g, rfl, hi, hb, _⟩; have HP0 := Aside0.mk (newP (w := w) 32 (pW_b0 w) (pW_b1 w) (by simp) hi (show Below w.heap.size w w1 from (below_alloc (below_alloc (Below.refl _ _) _) _).trans (hb.mono (by simp; omega))) hb); have r4 := cellAt (i := 0) HP0.out.box rfl; clear hi hb) | (go_at_call 27; (with_reducible refine (reader_num g s 0 1 w _ HP0.out.rd HP0.out.bel (by omega) (by have := HN.out; omega) (by omega) (by omega) HS.out).mono ?_); clear r4; rintro e w_HP1 ⟨rfl, hi, hb, hk⟩; rw [← HX0.out]; have HP1 := Aside0.mk (HP0.out.call (show IsS93 w w_HP1 g s 1 by simpa using hi) hb hk); have r4 := cellAt (i := 0) HP1.out.box rfl; clear hi hb hk) | (go_at_call 26; (with_reducible refine (bad_no _ _).mono ?_); rintro e w_ ⟨rfl, rfl⟩))
  have HPd := Aside0.mk (HP1.out.below (W1 := w_HP1.drew) (below_drew (Below.refl _ _)))
  go_cut [16] from 14 to 23 (fun v16 wx => Aside0 (PS 32 w wx g w1.heap.size s 13 #[.int .u64 x1, .int .u32 y2, .int .u64 0, .int .u64 0, .int .i64 0, .int .u64 0, .slice none 0 0]))
  case first =>
    refine wp_onlyN ?_
    go_region_with (first
      | (go_at_call 27; (with_reducible refine (reader_num g s 1 8 w _ HPd.out.rd HPd.out.bel (by omega) (by have := HN.out; omega) (by omega) (by omega) HS.out).mono ?_); rintro e w5 ⟨rfl, hi, hb, hk⟩; rw [← HX1.out]; have HP2 := Aside0.mk (HPd.out.call (show IsS93 w w5 g s 9 by simpa using hi) hb hk); have r5 := cellAt (i := 0) HP2.out.box rfl; clear hi hb hk)
      | (go_at_call 27; (with_reducible refine (reader_num g s 9 4 w _ HP2.out.rd HP2.out.bel (by omega) (by have := HN.out; omega) (by omega) (by omega) HS.out).mono ?_); rintro e w6 ⟨rfl, hi, hb, hk⟩; rw [← HX2.out]; have HP3 := Aside0.mk (HP2.out.call (show IsS93 w w6 g s 13 by simpa using hi) hb hk); have s0 := cellAt (i := 0) HP3.out.t2 rfl; have s1 := cellAt (i := 1) HP3.out.t2 rfl; have f0 := blk_frozen HP3.out.t2 0; have f1 := blk_frozen HP3.out.t2 1; clear hi hb hk))
    all_goals
      dsimp only [OnlyN]
      go_wp2_with fail
      go_meet
      case rel => exact ⟨(HP3.out.set 0 _).set 1 _⟩
  case rest =>
    clear r4
    have HP4 := hcut
    have r4 := cellAt (i := 0) HP4.out.box rfl
    go_upto_region 6 with ((go_at_call 28; (with_reducible refine (reader_record_good g s 13 w _ HP4.out.rd HP4.out.bel (by omega) HS.out HE.out xv HXV.out l HL.out q HQ.out).mono ?_); clear r4; rintro e w7 ⟨v7, rfl, ho, hi, hb, hk⟩; obtain ⟨A7, c7, rfl⟩ := Kd.R_slice ho; have HP5 := Aside0.mk (HP4.out.call hi hb hk); have HO5 := Aside0.mk (Kd.R_lower ho HP4.out.bel.size); have r4 := cellAt (i := 0) HP5.out.box rfl; have s2 := cellAt (i := 2) HP5.out.t2 rfl; have s3 := cellAt (i := 3) HP5.out.t2 rfl; have s4 := cellAt (i := 4) HP5.out.t2 rfl; have s5 := cellAt (i := 5) HP5.out.t2 rfl; have s6 := cellAt (i := 6) HP5.out.t2 rfl; have f2 := blk_frozen HP5.out.t2 2; have f3 := blk_frozen HP5.out.t2 3; have f4 := blk_frozen HP5.out.t2 4; have f5 := blk_frozen HP5.out.t2 5; have f6 := blk_frozen HP5.out.t2 6; clear ho hi hb hk))
    have HP6 := Aside0.mk (show PS 32 w (((((w7.setCell ⟨w.heap.size, 2, none⟩ (.int .u64 xv.f0)).setCell ⟨w.heap.size, 3, none⟩ (.int .u64 xv.f1.f0)).setCell ⟨w.heap.size, 4, none⟩ (.int .i64 xv.f1.f1)).setCell ⟨w.heap.size, 5, none⟩ (.int .u64 xv.f2)).setCell ⟨w.heap.size, 6, none⟩ (.slice A7 l.length c7)) g w1.heap.size s q #[.int .u64 x1, .int .u32 y2, .int .u64 xv.f0, .int .u64 xv.f1.f0, .int .i64 xv.f1.f1, .int .u64 xv.f2, .slice A7 l.length c7] from (((((HP5.out.set 2 (.int .u64 xv.f0)).set 3 (.int .u64 xv.f1.f0)).set 4 (.int .i64 xv.f1.f1)).set 5 (.int .u64 xv.f2)).set 6 (.slice A7 l.length c7)))
    have HO6 := Aside0.mk (show Kd.R k27 27 (((((w7.setCell ⟨w.heap.size, 2, none⟩ (.int .u64 xv.f0)).setCell ⟨w.heap.size, 3, none⟩ (.int .u64 xv.f1.f0)).setCell ⟨w.heap.size, 4, none⟩ (.int .i64 xv.f1.f1)).setCell ⟨w.heap.size, 5, none⟩ (.int .u64 xv.f2)).setCell ⟨w.heap.size, 6, none⟩ (.slice A7 l.length c7)) w.heap.size (fun _ => True) (.slice A7 l.length c7) l from Kd.R_mono (Kd.R_far (p := ⟨w.heap.size, 6, none⟩) (Kd.R_far (p := ⟨w.heap.size, 5, none⟩) (Kd.R_far (p := ⟨w.heap.size, 4, none⟩) (Kd.R_far (p := ⟨w.heap.size, 3, none⟩) (Kd.R_far (p := ⟨w.heap.size, 2, none⟩) (Kd.R_types HO5.out HP5.out.t2 (by decide)) (fun _ hk => hk.2) (.int .u64 xv.f0)) (fun _ hk => hk.2) (.int .u64 xv.f1.f0)) (fun _ hk => hk.2) (.int .i64 xv.f1.f1)) (fun _ hk => hk.2) (.int .u64 xv.f2)) (fun _ hk => hk.2) (.slice A7 l.length c7)) (ok' := fun _ => True) (fun _ _ => trivial))
    clear r4 s2 s3 s4 s5 s6 f2 f3 f4 f5 f6
    generalize (((((w7.setCell ⟨w.heap.size, 2, none⟩ (.int .u64 xv.f0)).setCell ⟨w.heap.size, 3, none⟩ (.int .u64 xv.f1.f0)).setCell ⟨w.heap.size, 4, none⟩ (.int .i64 xv.f1.f1)).setCell ⟨w.heap.size, 5, none⟩ (.int .u64 xv.f2)).setCell ⟨w.heap.size, 6, none⟩ (.slice A7 l.length c7)) = W6 at HP6 HO6 ⊢
    have r4 := cellAt (i := 0) HP6.out.box rfl
    go_wp2_with (go_at_call 29; (with_reducible refine (reader_end g s q w _ HP6.out.rd HP6.out.bel (by have := HQ.out; omega) H4.out HS.out).mono ?_); clear r4; rintro e w9 ⟨rfl, hb, hk⟩; have HT9 := Aside0.mk (hk.blk HP6.out.t2 (by have := HP6.out.gg; omega) (by simp)); have HU9 := Aside0.mk (hk.blk HP6.out.t3 (by have := HP6.out.gg; omega) (by simp)); have HB9 := Aside0.mk hb; have HO9 := Aside0.mk (Kd.R_mono (Kd.R_keep (Kd.R_types HO6.out HP6.out.rd.1 (by decide)) hk (fun _ h => h.2)) (ok' := fun _ => True) (fun _ _ => trivial)); have s0 := cellAt (i := 0) HT9.out rfl; have s1 := cellAt (i := 1) HT9.out rfl; have s2 := cellAt (i := 2) HT9.out rfl; have s3 := cellAt (i := 3) HT9.out rfl; have s4 := cellAt (i := 4) HT9.out rfl; have s5 := cellAt (i := 5) HT9.out rfl; have s6 := cellAt (i := 6) HT9.out rfl;  have f0 := blk_frozen HT9.out 0; have f1 := blk_frozen HT9.out 1; have f2 := blk_frozen HT9.out 2; have f3 := blk_frozen HT9.out 3; have f4 := blk_frozen HT9.out 4; have f5 := blk_frozen HT9.out 5; have f6 := blk_frozen HT9.out 6;  have d0 := cellAt (i := 0) (blk_far7 HU9.out (b := w.heap.size) (by omega) (.int .u64 x1) (.int .u32 y2) (.int .u64 xv.f0) (.int .u64 xv.f1.f0) (.int .i64 xv.f1.f1) (.int .u64 xv.f2) (.slice A7 l.length c7)) rfl; have e0 := blk_frozen (blk_far7 HU9.out (b := w.heap.size) (by omega) (.int .u64 x1) (.int .u32 y2) (.int .u64 xv.f0) (.int .u64 xv.f1.f0) (.int .i64 xv.f1.f1) (.int .u64 xv.f2) (.slice A7 l.length c7)) 0; clear hb hk)
    have K2 := Aside0.mk (blk_set (blk_set (blk_set (blk_set (blk_set (blk_set (blk_set HT9.out 0 (.int .u64 x1)) 1 (.int .u32 y2)) 2 (.int .u64 xv.f0)) 3 (.int .u64 xv.f1.f0)) 4 (.int .i64 xv.f1.f1)) 5 (.int .u64 xv.f2)) 6 (.slice A7 l.length c7))
    have K3 := Aside0.mk (blk_set (blk_far7 HU9.out (b := w.heap.size) (by omega) (.int .u64 x1) (.int .u32 y2) (.int .u64 xv.f0) (.int .u64 xv.f1.f0) (.int .i64 xv.f1.f1) (.int .u64 xv.f2) (.slice A7 l.length c7)) 0 (.int .i64 0))
    refine leaves_cons (f := 24) (args := #[.pointer (some ⟨w.heap.size, 0, none⟩), .pointer (some ⟨w.heap.size + 1, 0, none⟩)]) (by simp) (by simp [go_sem]) ?_
    refine (parse_idle w.heap.size (w.heap.size + 1) _).mono ?_
    rintro e u' w'' ⟨rfl, rfl, rfl⟩
    have k2 := blk_far (p := ⟨w.heap.size + 1, 0, none⟩) K2.out (show w.heap.size ≠ w.heap.size + 1 by omega) (.int .i64 0)
    refine ⟨_, results_cells2 rfl rfl rfl (run_loadVar_row (P := Try.prog) _ w.heap.size 32 32 _ (0, 0) _ k2 Try.underlying32 rfl (by kernel_rfl)) (load_err K3.out), ⟨.slice A7 l.length c7, rfl, ?_, below_set (below_set (below_set (below_set (below_set (below_set (below_set (below_set HB9.out (Nat.le_refl _)) (Nat.le_refl _)) (Nat.le_refl _)) (Nat.le_refl _)) (Nat.le_refl _)) (Nat.le_refl _)) (Nat.le_refl _)) (by omega)⟩⟩
    have ho := Kd.R_mono (Kd.R_far (p := ⟨w.heap.size, 6, none⟩) (Kd.R_far (p := ⟨w.heap.size, 5, none⟩) (Kd.R_far (p := ⟨w.heap.size, 4, none⟩) (Kd.R_far (p := ⟨w.heap.size, 3, none⟩) (Kd.R_far (p := ⟨w.heap.size, 2, none⟩) (Kd.R_far (p := ⟨w.heap.size, 1, none⟩) (Kd.R_far (p := ⟨w.heap.size, 0, none⟩) (Kd.R_types HO9.out HT9.out (by decide)) (fun _ hk => hk.2) (.int .u64 x1)) (fun _ hk => hk.2) (.int .u32 y2)) (fun _ hk => hk.2) (.int .u64 xv.f0)) (fun _ hk => hk.2) (.int .u64 xv.f1.f0)) (fun _ hk => hk.2) (.int .i64 xv.f1.f1)) (fun _ hk => hk.2) (.int .u64 xv.f2)) (fun _ hk => hk.2) (.slice A7 l.length c7)) (ok' := fun _ => True) (fun _ _ => trivial)
    exact Kd.R_mono (Kd.R_far (p := ⟨w.heap.size + 1, 0, none⟩) (Kd.R_types ho (blk_far7 HU9.out (b := w.heap.size) (by omega) (.int .u64 x1) (.int .u32 y2) (.int .u64 xv.f0) (.int .u64 xv.f1.f0) (.int .i64 xv.f1.f1) (.int .u64 xv.f2) (.slice A7 l.length c7)) (by decide)) (fun _ hk => hk.2) (.int .i64 0)) (fun _ _ => trivial)
end Go.Proofs.Ytlkemknhmfjdpaa.P
/- Parse's contract, whole. -/
namespace Go.Proofs.Ytlkemknhmfjdpaa.P
open Go.RowKit Go.Proofs.YtlkemknhmfjdpaaW.PrintWords Go.Proofs.YtlkemknhmfjdpaaW.PrintLast Go.Proofs.YtlkemknhmfjdpaaW.PrintMore
set_option linter.unusedVariables false
set_option linter.unusedSimpArgs false

/-- Parse's error; 0: none. -/
def parseE (s : ByteArray) : Int := if s.size < 1 then 2 else if numAt s 0 1 ≠ 1 then 10 else if s.size < 13 then 2 else if recE s 13 ≠ 0 then recE s 13 else if 13 + 26 + 25 * ((recN s 13).toNat : Int) < s.size then 4 else 0
def log_Parse.f (a0 : ByteArray) : Option (Int × Int × Int × Int × Int × Int × List S27 × Int) :=
  if a0.size ≤ 1000000 then
    if parseE a0 = 0 then some (numAt a0 1 8, IntKind.u32.wrap (numAt a0 9 4), (viewAt a0 13).f0, (viewAt a0 13).f1.f0, (viewAt a0 13).f1.f1, (viewAt a0 13).f2, viewsAt a0 (recN a0 13).toNat (13 + 26), 0)
    else some (0, 0, 0, 0, 0, 0, [], parseE a0)
  else none
theorem log_Parse.calls (a0 : ByteArray) (r1 r2 r3 r4 r5 r6 : Int) (r7 : List S27) (r8 : Int) (w : World) (h : log_Parse.f a0 = some (r1, r2, r3, r4, r5, r6, r7, r8)) :
    Calls Try.prog 8 #[.string a0] w fun e w' => ∃ v6_ : Value, e = .returned (.tuple #[.agg #[.int .u64 r1, .int .u32 r2, .int .u64 r3, .int .u64 r4, .int .i64 r5, .int .u64 r6, v6_], .int .i64 r8]) ∧ Kd.R k27 27 w' w.heap.size (fun _ => True) v6_ r7 ∧ Below w.heap.size w w' := by
  unfold log_Parse.f at h
  by_cases hs : a0.size ≤ 1000000
  rotate_left
  · rw [if_neg hs] at h
    cases h
  rw [if_pos hs] at h
  have bad : ∀ c : Int, parseE a0 = c → c ≠ 0 → (Calls Try.prog 8 #[.string a0] w fun e w' => e = .returned (.tuple #[.agg #[.int .u64 0, .int .u32 0, .int .u64 0, .int .u64 0, .int .i64 0, .int .u64 0, .slice none 0 0], .int .i64 c]) ∧ Below w.heap.size w w') →
      Calls Try.prog 8 #[.string a0] w fun e w' => ∃ v6_ : Value, e = .returned (.tuple #[.agg #[.int .u64 r1, .int .u32 r2, .int .u64 r3, .int .u64 r4, .int .i64 r5, .int .u64 r6, v6_], .int .i64 r8]) ∧ Kd.R k27 27 w' w.heap.size (fun _ => True) v6_ r7 ∧ Below w.heap.size w w' := by
    intro c hc h0 hcall
    rw [hc, if_neg h0] at h
    simp only [Option.some.injEq, Prod.mk.injEq] at h
    obtain ⟨rfl, rfl, rfl, rfl, rfl, rfl, rfl, rfl⟩ := h
    exact hcall.mono fun e w' hh => ⟨_, hh.1, Kd.R_nil _ _ _ _ _, hh.2⟩
  by_cases d1 : a0.size < 1
  · exact bad 2 (by rw [parseE, if_pos d1]) (by decide) (parse_short1 a0 w hs d1)
  by_cases d2 : numAt a0 0 1 ≠ 1
  · exact bad 10 (by rw [parseE, if_neg d1, if_pos d2]) (by decide) (parse_kind a0 w hs (by omega) d2)
  have d2' : numAt a0 0 1 = 1 := Classical.byContradiction d2
  by_cases d3 : a0.size < 9
  · exact bad 2 (by rw [parseE, if_neg d1, if_neg d2, if_pos (by omega)]) (by decide) (parse_short2 a0 w hs (by omega) d2' d3)
  by_cases d4 : a0.size < 13
  · exact bad 2 (by rw [parseE, if_neg d1, if_neg d2, if_pos d4]) (by decide) (parse_short3 a0 w hs (by omega) d2' d4)
  by_cases d5 : recE a0 13 ≠ 0
  · exact bad (recE a0 13) (by rw [parseE, if_neg d1, if_neg d2, if_neg d4, if_pos d5]) d5 (parse_rec a0 w hs _ (by omega) d2' rfl d5)
  have d5' : recE a0 13 = 0 := Classical.byContradiction d5
  by_cases d6 : 13 + 26 + 25 * ((recN a0 13).toNat : Int) < a0.size
  · exact bad 4 (by rw [parseE, if_neg d1, if_neg d2, if_neg d4, if_neg d5, if_pos d6]) (by decide) (parse_end a0 w hs (by omega) d2' d5' d6)
  · rw [if_pos (show parseE a0 = 0 by rw [parseE, if_neg d1, if_neg d2, if_neg d4, if_neg d5, if_neg d6])] at h
    simp only [Option.some.injEq, Prod.mk.injEq] at h
    obtain ⟨rfl, rfl, rfl, rfl, rfl, rfl, rfl, rfl⟩ := h
    exact parse_good a0 w hs (by omega) d2' d5' (by have := recE_end d5'; omega)
end Go.Proofs.Ytlkemknhmfjdpaa.P
