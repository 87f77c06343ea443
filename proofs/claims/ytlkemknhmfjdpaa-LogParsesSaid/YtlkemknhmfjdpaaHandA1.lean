import Derived.Test.YtlkemknhmfjdpaaHandV2
import Derived.Test.YtlkemknhmfjdpaaHandV1
import Derived.Test.YtlkemknhmfjdpaaHandI
import Derived.Deep.RegionWith
import Derived.RegionCalls
/- ParseItem, by hand. -/
namespace Go.Proofs.Ytlkemknhmfjdpaa.P
open Go.RowKit Go.Proofs.YtlkemknhmfjdpaaW.PrintWords Go.Proofs.YtlkemknhmfjdpaaW.PrintLast Go.Proofs.YtlkemknhmfjdpaaW.PrintMore
attribute [local go_sem] max2_int min2_int max_two min_two max_three min_three max_four min_four
set_option linter.unusedVariables false
set_option linter.unusedSimpArgs false

abbrev iW (w : World) : World := (w.alloc (.cells #[.int .i64 0, .string ⟨#[]⟩, .int .u32 0, .int .u64 0, .bool false, .bool false, .int .u64 0, .int .u64 0, .int .i64 0, .int .u64 0, .slice none 0 0, .int .u64 0, .int .u64 0, .int .i64 0, .int .u64 0, .int .u64 0, .int .i64 0, .int .i64 0] 34)).alloc (.cells #[.int .i64 0] 36)
theorem iW_b0 (w : World) : (iW w).heap[w.heap.size]? = some (.cells #[.int .i64 0, .string ⟨#[]⟩, .int .u32 0, .int .u64 0, .bool false, .bool false, .int .u64 0, .int .u64 0, .int .i64 0, .int .u64 0, .slice none 0 0, .int .u64 0, .int .u64 0, .int .i64 0, .int .u64 0, .int .u64 0, .int .i64 0, .int .i64 0] 34 (0, 0)) := heap_old1 (heap_alloc_new w _) _
theorem iW_b1 (w : World) : (iW w).heap[w.heap.size + 1]? = some (.cells #[.int .i64 0] 36 (0, 0)) := by
  have := heap_alloc_new (w.alloc (.cells #[.int .i64 0, .string ⟨#[]⟩, .int .u32 0, .int .u64 0, .bool false, .bool false, .int .u64 0, .int .u64 0, .int .i64 0, .int .u64 0, .slice none 0 0, .int .u64 0, .int .u64 0, .int .i64 0, .int .u64 0, .int .u64 0, .int .i64 0, .int .i64 0] 34)) (.cells #[.int .i64 0] 36)
  simpa using this
set_option maxHeartbeats 8000000 in
set_option maxRecDepth 100000 in
theorem item_short1 (s : ByteArray) (w : World) (hs : s.size ≤ 1000000) (h1 : s.size < 1) :
    Calls Try.prog 12 #[.string s] w fun e w' => e = .returned (.tuple #[.agg #[.int .i64 0, .string ⟨#[]⟩, .int .u32 0, .int .u64 0, .bool false, .bool false, .int .u64 0, .int .u64 0, .int .i64 0, .int .u64 0, .slice none 0 0, .int .u64 0, .int .u64 0, .int .i64 0, .int .u64 0, .int .u64 0, .int .i64 0, .int .i64 0], .int .i64 2]) ∧ Below w.heap.size w w' := by
  have HS := Aside0.mk hs
  have HN := Aside0.mk h1
  clear hs h1
  have hmf : ∀ (fn : Fn) (first cap : Array Value) (w : World), (Instr.makeFunc fn first cap).run Try.prog w = .ok (.func fn first cap) w := fun _ _ _ _ => rfl
  go_enter_defers Try.func12, Try.ntmps12
  go_wp2_with (first | (go_at_call 25; (with_reducible refine (num_New.calls s s 0 (iW w) _ (Below.refl _ _) rfl).mono ?_); rintro e w1 ⟨g, rfl, hi, hb, _⟩; have HP0 := Aside0.mk (newP (w := w) 34 (iW_b0 w) (iW_b1 w) (by simp) hi (show Below w.heap.size w w1 from (below_alloc (below_alloc (Below.refl _ _) _) _).trans (hb.mono (by simp; omega))) hb); have r4 := cellAt (i := 0) HP0.out.box rfl; clear hi hb) | (go_at_call 27; (with_reducible refine (reader_num_bad g s 0 1 w _ HP0.out.rd HP0.out.bel (by omega) (by have := HN.out; omega) (by have := HN.out; omega) (by omega) (by omega) HS.out).mono ?_); rintro e w9 ⟨rfl, hb, hk⟩; have HRB := Aside0.mk (show _ ∧ _ ∧ Below w.heap.size w _ from ⟨hk.blk HP0.out.t2 (by have := HP0.out.gg; omega) (by simp), hk.blk HP0.out.t3 (by have := HP0.out.gg; omega) (by simp), hb⟩); clear hb hk))
  clear r4
  refine leaves_cons (f := 33) (args := #[.pointer (some ⟨w.heap.size, 0, none⟩), .pointer (some ⟨w.heap.size + 1, 0, none⟩)]) (by simp) (by simp [go_sem]) ?_
  refine (parseItem_catch w.heap.size (w.heap.size + 1) _ rfl 0 2 (by decide) _ HRB.out.1 HRB.out.2.1).mono ?_
  rintro e u' w'' ⟨rfl, rfl, k0, k1, hbl⟩
  have hb := hbl w HRB.out.2.2 (Nat.le_refl _) (by omega)
  exact ⟨_, results_cells2 rfl rfl rfl (run_loadVar_row (P := Try.prog) w'' w.heap.size 34 34 _ (0, 0) _ k0 Try.underlying34 rfl (by kernel_rfl)) (load_err k1), rfl, hb⟩
set_option maxHeartbeats 8000000 in
set_option maxRecDepth 100000 in
theorem item_lo (s : ByteArray) (w : World) (hs : s.size ≤ 1000000) (y0 : Int) (h1 : 1 ≤ s.size) (hk0 : IntKind.i64.wrap (numAt s 0 1) = y0) (h2 : y0 < 1) :
    Calls Try.prog 12 #[.string s] w fun e w' => e = .returned (.tuple #[.agg #[.int .i64 0, .string ⟨#[]⟩, .int .u32 0, .int .u64 0, .bool false, .bool false, .int .u64 0, .int .u64 0, .int .i64 0, .int .u64 0, .slice none 0 0, .int .u64 0, .int .u64 0, .int .i64 0, .int .u64 0, .int .u64 0, .int .i64 0, .int .i64 0], .int .i64 10]) ∧ Below w.heap.size w w' := by
  obtain ⟨x0, hx0⟩ : ∃ x, x = numAt s 0 1 := ⟨_, rfl⟩
  have HX0 := Aside0.mk hx0
  have HS := Aside0.mk hs
  rw [← hx0] at hk0
  have HN := Aside0.mk (show 1 ≤ s.size from h1)
  have b0 : decide (y0 < 1) = true := decide_eq_true h2
  clear hs h1 h2 hx0
  have hmf : ∀ (fn : Fn) (first cap : Array Value) (w : World), (Instr.makeFunc fn first cap).run Try.prog w = .ok (.func fn first cap) w := fun _ _ _ _ => rfl
  go_enter_defers Try.func12, Try.ntmps12
  go_upto_region 4 with (first | (go_at_call 25; (with_reducible refine (num_New.calls s s 0 (iW w) _ (Below.refl _ _) rfl).mono ?_); rintro e w1 ⟨g, rfl, hi, hb, _⟩; have HP0 := Aside0.mk (newP (w := w) 34 (iW_b0 w) (iW_b1 w) (by simp) hi (show Below w.heap.size w w1 from (below_alloc (below_alloc (Below.refl _ _) _) _).trans (hb.mono (by simp; omega))) hb); have r4 := cellAt (i := 0) HP0.out.box rfl; clear hi hb) | (go_at_call 27; (with_reducible refine (reader_num g s 0 1 w _ HP0.out.rd HP0.out.bel (by omega) (by have := HN.out; omega) (by omega) (by omega) HS.out).mono ?_); clear r4; rintro e w2 ⟨rfl, hi, hb, hk⟩; rw [← HX0.out]; have HP1 := Aside0.mk (HP0.out.call (show IsS93 w w2 g s 1 by simpa using hi) hb hk); have r4 := cellAt (i := 0) HP1.out.box rfl; have k0 := cellAt (i := 0) HP1.out.t2 rfl; have f0 := blk_frozen HP1.out.t2 0; clear hi hb hk))
  have HP2 := Aside0.mk (show PS 34 w (w2.setCell ⟨w.heap.size, 0, none⟩ (.int .i64 y0)) g w1.heap.size s 1 #[.int .i64 y0, .string ⟨#[]⟩, .int .u32 0, .int .u64 0, .bool false, .bool false, .int .u64 0, .int .u64 0, .int .i64 0, .int .u64 0, .slice none 0 0, .int .u64 0, .int .u64 0, .int .i64 0, .int .u64 0, .int .u64 0, .int .i64 0, .int .i64 0] from HP1.out.set 0 _)
  clear r4 k0 f0
  generalize w2.setCell ⟨w.heap.size, 0, none⟩ (.int .i64 y0) = W2 at HP2 ⊢
  have r4 := cellAt (i := 0) HP2.out.box rfl
  have k0 := cellAt (i := 0) HP2.out.t2 rfl
  go_wp2_with (first | (go_at_call 26; (with_reducible refine (bad_yes 10 _).mono ?_); rintro e w_ ⟨rfl, rfl⟩))
  clear r4 k0
  have HRB := Aside0.mk (show _ ∧ _ ∧ Below w.heap.size w _ from ⟨HP2.out.t2, HP2.out.t3, HP2.out.bel⟩)
  refine leaves_cons (f := 33) (args := #[.pointer (some ⟨w.heap.size, 0, none⟩), .pointer (some ⟨w.heap.size + 1, 0, none⟩)]) (by simp) (by simp [go_sem]) ?_
  refine (parseItem_catch w.heap.size (w.heap.size + 1) _ rfl 0 10 (by decide) _ HRB.out.1 HRB.out.2.1).mono ?_
  rintro e u' w'' ⟨rfl, rfl, k0, k1, hbl⟩
  have hb := hbl w HRB.out.2.2 (Nat.le_refl _) (by omega)
  exact ⟨_, results_cells2 rfl rfl rfl (run_loadVar_row (P := Try.prog) w'' w.heap.size 34 34 _ (0, 0) _ k0 Try.underlying34 rfl (by kernel_rfl)) (load_err k1), rfl, hb⟩
set_option maxHeartbeats 8000000 in
set_option maxRecDepth 100000 in
theorem item_hi (s : ByteArray) (w : World) (hs : s.size ≤ 1000000) (y0 : Int) (h1 : 1 ≤ s.size) (hk0 : IntKind.i64.wrap (numAt s 0 1) = y0) (h2 : 4 < y0) :
    Calls Try.prog 12 #[.string s] w fun e w' => e = .returned (.tuple #[.agg #[.int .i64 0, .string ⟨#[]⟩, .int .u32 0, .int .u64 0, .bool false, .bool false, .int .u64 0, .int .u64 0, .int .i64 0, .int .u64 0, .slice none 0 0, .int .u64 0, .int .u64 0, .int .i64 0, .int .u64 0, .int .u64 0, .int .i64 0, .int .i64 0], .int .i64 10]) ∧ Below w.heap.size w w' := by
  obtain ⟨x0, hx0⟩ : ∃ x, x = numAt s 0 1 := ⟨_, rfl⟩
  have HX0 := Aside0.mk hx0
  have HS := Aside0.mk hs
  rw [← hx0] at hk0
  have HN := Aside0.mk (show 1 ≤ s.size from h1)
  have b0 : decide (y0 < 1) = false := decide_eq_false (by omega)
  have b1 : decide (4 < y0) = true := decide_eq_true h2
  clear hs h1 h2 hx0
  have hmf : ∀ (fn : Fn) (first cap : Array Value) (w : World), (Instr.makeFunc fn first cap).run Try.prog w = .ok (.func fn first cap) w := fun _ _ _ _ => rfl
  go_enter_defers Try.func12, Try.ntmps12
  go_upto_region 4 with (first | (go_at_call 25; (with_reducible refine (num_New.calls s s 0 (iW w) _ (Below.refl _ _) rfl).mono ?_); rintro e w1 ⟨g, rfl, hi, hb, _⟩; have HP0 := Aside0.mk (newP (w := w) 34 (iW_b0 w) (iW_b1 w) (by simp) hi (show Below w.heap.size w w1 from (below_alloc (below_alloc (Below.refl _ _) _) _).trans (hb.mono (by simp; omega))) hb); have r4 := cellAt (i := 0) HP0.out.box rfl; clear hi hb) | (go_at_call 27; (with_reducible refine (reader_num g s 0 1 w _ HP0.out.rd HP0.out.bel (by omega) (by have := HN.out; omega) (by omega) (by omega) HS.out).mono ?_); clear r4; rintro e w2 ⟨rfl, hi, hb, hk⟩; rw [← HX0.out]; have HP1 := Aside0.mk (HP0.out.call (show IsS93 w w2 g s 1 by simpa using hi) hb hk); have r4 := cellAt (i := 0) HP1.out.box rfl; have k0 := cellAt (i := 0) HP1.out.t2 rfl; have f0 := blk_frozen HP1.out.t2 0; clear hi hb hk))
  have HP2 := Aside0.mk (show PS 34 w (w2.setCell ⟨w.heap.size, 0, none⟩ (.int .i64 y0)) g w1.heap.size s 1 #[.int .i64 y0, .string ⟨#[]⟩, .int .u32 0, .int .u64 0, .bool false, .bool false, .int .u64 0, .int .u64 0, .int .i64 0, .int .u64 0, .slice none 0 0, .int .u64 0, .int .u64 0, .int .i64 0, .int .u64 0, .int .u64 0, .int .i64 0, .int .i64 0] from HP1.out.set 0 _)
  clear r4 k0 f0
  generalize w2.setCell ⟨w.heap.size, 0, none⟩ (.int .i64 y0) = W2 at HP2 ⊢
  have r4 := cellAt (i := 0) HP2.out.box rfl
  have k0 := cellAt (i := 0) HP2.out.t2 rfl
  go_wp2_with (first | (go_at_call 26; (with_reducible refine (bad_yes 10 _).mono ?_); rintro e w_ ⟨rfl, rfl⟩))
  clear r4 k0
  have HRB := Aside0.mk (show _ ∧ _ ∧ Below w.heap.size w _ from ⟨HP2.out.t2, HP2.out.t3, HP2.out.bel⟩)
  refine leaves_cons (f := 33) (args := #[.pointer (some ⟨w.heap.size, 0, none⟩), .pointer (some ⟨w.heap.size + 1, 0, none⟩)]) (by simp) (by simp [go_sem]) ?_
  refine (parseItem_catch w.heap.size (w.heap.size + 1) _ rfl 0 10 (by decide) _ HRB.out.1 HRB.out.2.1).mono ?_
  rintro e u' w'' ⟨rfl, rfl, k0, k1, hbl⟩
  have hb := hbl w HRB.out.2.2 (Nat.le_refl _) (by omega)
  exact ⟨_, results_cells2 rfl rfl rfl (run_loadVar_row (P := Try.prog) w'' w.heap.size 34 34 _ (0, 0) _ k0 Try.underlying34 rfl (by kernel_rfl)) (load_err k1), rfl, hb⟩
set_option maxHeartbeats 8000000 in
set_option maxRecDepth 100000 in
theorem item_over (s : ByteArray) (w : World) (hs : s.size ≤ 1000000) (y0 : Int) (h1 : 1 ≤ s.size) (hk0 : IntKind.i64.wrap (numAt s 0 1) = y0) (h2 : 1 ≤ y0) (h3 : y0 ≤ 4) (h4 : 1024 < s.size) :
    Calls Try.prog 12 #[.string s] w fun e w' => e = .returned (.tuple #[.agg #[.int .i64 0, .string ⟨#[]⟩, .int .u32 0, .int .u64 0, .bool false, .bool false, .int .u64 0, .int .u64 0, .int .i64 0, .int .u64 0, .slice none 0 0, .int .u64 0, .int .u64 0, .int .i64 0, .int .u64 0, .int .u64 0, .int .i64 0, .int .i64 0], .int .i64 3]) ∧ Below w.heap.size w w' := by
  obtain ⟨x0, hx0⟩ : ∃ x, x = numAt s 0 1 := ⟨_, rfl⟩
  have HX0 := Aside0.mk hx0
  have HS := Aside0.mk hs
  rw [← hx0] at hk0
  have HN := Aside0.mk (show 1 ≤ s.size from h1)
  have b0 : decide (y0 < 1) = false := decide_eq_false (by omega)
  have b1 : decide (4 < y0) = false := decide_eq_false (by omega)
  have b2 : decide (1024 < (s.size : Int)) = true := decide_eq_true (by omega)
  clear hs h1 h2 h3 h4 hx0
  have hmf : ∀ (fn : Fn) (first cap : Array Value) (w : World), (Instr.makeFunc fn first cap).run Try.prog w = .ok (.func fn first cap) w := fun _ _ _ _ => rfl
  go_enter_defers Try.func12, Try.ntmps12
  go_upto_region 4 with (first | (go_at_call 25; (with_reducible refine (num_New.calls s s 0 (iW w) _ (Below.refl _ _) rfl).mono ?_); rintro e w1 ⟨g, rfl, hi, hb, _⟩; have HP0 := Aside0.mk (newP (w := w) 34 (iW_b0 w) (iW_b1 w) (by simp) hi (show Below w.heap.size w w1 from (below_alloc (below_alloc (Below.refl _ _) _) _).trans (hb.mono (by simp; omega))) hb); have r4 := cellAt (i := 0) HP0.out.box rfl; clear hi hb) | (go_at_call 27; (with_reducible refine (reader_num g s 0 1 w _ HP0.out.rd HP0.out.bel (by omega) (by have := HN.out; omega) (by omega) (by omega) HS.out).mono ?_); clear r4; rintro e w2 ⟨rfl, hi, hb, hk⟩; rw [← HX0.out]; have HP1 := Aside0.mk (HP0.out.call (show IsS93 w w2 g s 1 by simpa using hi) hb hk); have r4 := cellAt (i := 0) HP1.out.box rfl; have k0 := cellAt (i := 0) HP1.out.t2 rfl; have f0 := blk_frozen HP1.out.t2 0; clear hi hb hk))
  have HP2 := Aside0.mk (show PS 34 w (w2.setCell ⟨w.heap.size, 0, none⟩ (.int .i64 y0)) g w1.heap.size s 1 #[.int .i64 y0, .string ⟨#[]⟩, .int .u32 0, .int .u64 0, .bool false, .bool false, .int .u64 0, .int .u64 0, .int .i64 0, .int .u64 0, .slice none 0 0, .int .u64 0, .int .u64 0, .int .i64 0, .int .u64 0, .int .u64 0, .int .i64 0, .int .i64 0] from HP1.out.set 0 _)
  clear r4 k0 f0
  generalize w2.setCell ⟨w.heap.size, 0, none⟩ (.int .i64 y0) = W2 at HP2 ⊢
  have r4 := cellAt (i := 0) HP2.out.box rfl
  have k0 := cellAt (i := 0) HP2.out.t2 rfl
  go_wp2_with (first | (go_at_call 26; (with_reducible refine (bad_no _ _).mono ?_); rintro e w_ ⟨rfl, rfl⟩) | (go_at_call 26; (with_reducible refine (bad_yes 3 _).mono ?_); rintro e w_ ⟨rfl, rfl⟩))
  clear r4 k0
  have HRB := Aside0.mk (show _ ∧ _ ∧ Below w.heap.size w _ from ⟨HP2.out.t2, HP2.out.t3, HP2.out.bel⟩)
  refine leaves_cons (f := 33) (args := #[.pointer (some ⟨w.heap.size, 0, none⟩), .pointer (some ⟨w.heap.size + 1, 0, none⟩)]) (by simp) (by simp [go_sem]) ?_
  refine (parseItem_catch w.heap.size (w.heap.size + 1) _ rfl 0 3 (by decide) _ HRB.out.1 HRB.out.2.1).mono ?_
  rintro e u' w'' ⟨rfl, rfl, k0, k1, hbl⟩
  have hb := hbl w HRB.out.2.2 (Nat.le_refl _) (by omega)
  exact ⟨_, results_cells2 rfl rfl rfl (run_loadVar_row (P := Try.prog) w'' w.heap.size 34 34 _ (0, 0) _ k0 Try.underlying34 rfl (by kernel_rfl)) (load_err k1), rfl, hb⟩
end Go.Proofs.Ytlkemknhmfjdpaa.P
/- ParseItem, by hand. -/
namespace Go.Proofs.Ytlkemknhmfjdpaa.P
open Go.RowKit Go.Proofs.YtlkemknhmfjdpaaW.PrintWords Go.Proofs.YtlkemknhmfjdpaaW.PrintLast Go.Proofs.YtlkemknhmfjdpaaW.PrintMore
attribute [local go_sem] max2_int min2_int max_two min_two max_three min_three max_four min_four
set_option linter.unusedVariables false
set_option linter.unusedSimpArgs false

/-- The text from a place on. -/
def txtAt (s : ByteArray) (p : Int) : ByteArray := s.extract p.toNat (p + ((s.size : Int) - p)).toNat
set_option maxHeartbeats 8000000 in
set_option maxRecDepth 100000 in
theorem item1_parse (s : ByteArray) (w : World) (hs : s.size ≤ 1000000) (h1 : 1 ≤ s.size) (hk0 : IntKind.i64.wrap (numAt s 0 1) = 1) (h2 : s.size ≤ 1024) :
    Calls Try.prog 12 #[.string s] w fun e w' => e = .returned (.tuple #[.agg #[.int .i64 1, .string (txtAt s 1), .int .u32 0, .int .u64 0, .bool false, .bool false, .int .u64 0, .int .u64 0, .int .i64 0, .int .u64 0, .slice none 0 0, .int .u64 0, .int .u64 0, .int .i64 0, .int .u64 0, .int .u64 0, .int .i64 0, .int .i64 0], .int .i64 0]) ∧ Below w.heap.size w w' := by
  obtain ⟨x0, hx0⟩ : ∃ x, x = numAt s 0 1 := ⟨_, rfl⟩
  have HX0 := Aside0.mk hx0
  have HS := Aside0.mk hs
  rw [← hx0] at hk0
  have HN := Aside0.mk (show 1 ≤ s.size ∧ s.size ≤ 1024 from ⟨h1, h2⟩)
  have b0 : decide (1024 < (s.size : Int)) = false := decide_eq_false (by omega)
  clear hs h1 h2 hx0
  obtain ⟨d, hd⟩ : ∃ d, d = txtAt s 1 := ⟨_, rfl⟩
  have HD := Aside0.mk (show d = s.extract (1 : Int).toNat ((1 : Int) + ((s.size : Int) - 1)).toNat from hd)
  rw [← hd]
  clear hd
  have hmf : ∀ (fn : Fn) (first cap : Array Value) (w : World), (Instr.makeFunc fn first cap).run Try.prog w = .ok (.func fn first cap) w := fun _ _ _ _ => rfl
  go_enter_defers Try.func12, Try.ntmps12
  go_upto_region 4 with (first | (go_at_call 25; (with_reducible refine (num_New.calls s s 0 (iW w) _ (Below.refl _ _) rfl).mono ?_); rintro e w1 ⟨g, rfl, hi, hb, _⟩; have HP0 := Aside0.mk (newP (w := w) 34 (iW_b0 w) (iW_b1 w) (by simp) hi (show Below w.heap.size w w1 from (below_alloc (below_alloc (Below.refl _ _) _) _).trans (hb.mono (by simp; omega))) hb); have r4 := cellAt (i := 0) HP0.out.box rfl; clear hi hb) | (go_at_call 27; (with_reducible refine (reader_num g s 0 1 w _ HP0.out.rd HP0.out.bel (by omega) (by have := HN.out; omega) (by omega) (by omega) HS.out).mono ?_); clear r4; rintro e w2 ⟨rfl, hi, hb, hk⟩; rw [← HX0.out]; have HP1 := Aside0.mk (HP0.out.call (show IsS93 w w2 g s 1 by simpa using hi) hb hk); have r4 := cellAt (i := 0) HP1.out.box rfl; have k0 := cellAt (i := 0) HP1.out.t2 rfl; have f0 := blk_frozen HP1.out.t2 0; clear hi hb hk))
  have HP2 := Aside0.mk (show PS 34 w (w2.setCell ⟨w.heap.size, 0, none⟩ (.int .i64 1)) g w1.heap.size s 1 #[.int .i64 1, .string ⟨#[]⟩, .int .u32 0, .int .u64 0, .bool false, .bool false, .int .u64 0, .int .u64 0, .int .i64 0, .int .u64 0, .slice none 0 0, .int .u64 0, .int .u64 0, .int .i64 0, .int .u64 0, .int .u64 0, .int .i64 0, .int .i64 0] from HP1.out.set 0 _)
  clear r4 k0 f0
  generalize w2.setCell ⟨w.heap.size, 0, none⟩ (.int .i64 1) = W2 at HP2 ⊢
  have r4 := cellAt (i := 0) HP2.out.box rfl
  have k0 := cellAt (i := 0) HP2.out.t2 rfl
  go_upto_region 18 with (first | (go_at_call 26; (with_reducible refine (bad_no _ _).mono ?_); rintro e w_ ⟨rfl, rfl⟩))
  go_cut [92] from 87 to 93 (fun v92 wx => Aside0 (PS 34 w wx g w1.heap.size s (1 + ((s.size : Int) - 1)) #[.int .i64 1, .string d, .int .u32 0, .int .u64 0, .bool false, .bool false, .int .u64 0, .int .u64 0, .int .i64 0, .int .u64 0, .slice none 0 0, .int .u64 0, .int .u64 0, .int .i64 0, .int .u64 0, .int .u64 0, .int .i64 0, .int .i64 0]))
  case first =>
    refine wp_onlyN ?_
    have HPd := Aside0.mk (HP2.out.below (W1 := W2.drew) (below_drew (Below.refl _ _)))
    go_region_with (first
      | (go_at_call 36; (with_reducible refine (reader_left g s 1 w _ HPd.out.rd HPd.out.bel (by omega) (by have := HN.out; omega) HS.out).mono ?_); rintro e w5 ⟨rfl, hi, hb, hk⟩; have HPe := Aside0.mk (HPd.out.call hi hb hk); have r5 := cellAt (i := 0) HPe.out.box rfl; clear hi hb hk)
      | (go_at_call 35; (with_reducible refine (reader_text g s 1 _ w _ HPe.out.rd HPe.out.bel (by omega) (by have := HN.out; omega) (by have := HN.out; omega) HS.out).mono ?_); rintro e w6 ⟨rfl, hi, hb, hk⟩; have HPf := Aside0.mk (HPe.out.call hi hb hk); have k1 := cellAt (i := 1) HPf.out.t2 rfl; have f1 := blk_frozen HPf.out.t2 1; rw [show s.extract ((1 : Int)).toNat ((1 : Int) + ((s.size : Int) - 1)).toNat = d from HD.out.symm]; clear hi hb hk))
    all_goals
      dsimp only [OnlyN]
      go_wp2_with fail
      go_meet
      case rel => exact ⟨HPf.out.set 1 _⟩
  case rest =>
    clear r4 k0
    have HP4 := hcut
    have r4 := cellAt (i := 0) HP4.out.box rfl
    go_wp2_with (first | (go_at_call 29; (with_reducible refine (reader_end g s (1 + ((s.size : Int) - 1)) w _ HP4.out.rd HP4.out.bel (by have := HN.out; omega) (by have := HN.out; omega) HS.out).mono ?_); clear r4; rintro e w9 ⟨rfl, hb, hk⟩; have HT9 := Aside0.mk (hk.blk HP4.out.t2 (by have := HP4.out.gg; omega) (by simp)); have HU9 := Aside0.mk (hk.blk HP4.out.t3 (by have := HP4.out.gg; omega) (by simp)); have HB9 := Aside0.mk hb; clear hb hk) | ((with_reducible refine gate_dst (N := 96) rfl ?_); refine load_event rfl (.tmp 2) 34 rfl rfl (load34 HT9.out) ?_) | ((with_reducible refine gate_store (t := 34) (p := 2) rfl ?_); refine store_row_event rfl (ty := 34) (p := 2) rfl rfl w.heap.size #[.int .i64 1, .string d, .int .u32 0, .int .u64 0, .bool false, .bool false, .int .u64 0, .int .u64 0, .int .i64 0, .int .u64 0, .slice none 0 0, .int .u64 0, .int .u64 0, .int .i64 0, .int .u64 0, .int .u64 0, .int .i64 0, .int .i64 0] rfl rfl 34 #[.int .i64 1, .string d, .int .u32 0, .int .u64 0, .bool false, .bool false, .int .u64 0, .int .u64 0, .int .i64 0, .int .u64 0, .slice none 0 0, .int .u64 0, .int .u64 0, .int .i64 0, .int .u64 0, .int .u64 0, .int .i64 0, .int .i64 0] HT9.out (by kernel_rfl) rfl (by simp [Value.oneCell']) ?_; intro w10 h10; have P10 := Aside0.mk h10; have K3 := Aside0.mk ((h10.far (w.heap.size + 1) (by omega)).trans HU9.out); have d0 := cellAt (i := 0) K3.out rfl; have e0 := blk_frozen K3.out 0; clear h10))
    refine leaves_cons (f := 33) (args := #[.pointer (some ⟨w.heap.size, 0, none⟩), .pointer (some ⟨w.heap.size + 1, 0, none⟩)]) (by simp) (by simp [go_sem]) ?_
    refine (parseItem_idle w.heap.size (w.heap.size + 1) _).mono ?_
    rintro e u' w'' ⟨rfl, rfl, rfl⟩
    have k2 := blk_far (p := ⟨w.heap.size + 1, 0, none⟩) P10.out.at_ (show w.heap.size ≠ w.heap.size + 1 by omega) (.int .i64 0)
    refine ⟨_, results_cells2 rfl rfl rfl (run_loadVar_row (P := Try.prog) _ w.heap.size 34 34 _ (0, 0) _ k2 Try.underlying34 rfl (by kernel_rfl)) (load_err (blk_set K3.out 0 _)), ?_⟩
    have hbe := below_set (g := w.heap.size + 1) (j := 0) (v := .int .i64 0) (P10.out.bel w HB9.out (Nat.le_refl _)) (show w.heap.size ≤ w.heap.size + 1 by omega)
    exact ⟨rfl, hbe⟩
end Go.Proofs.Ytlkemknhmfjdpaa.P
/- ParseItem, by hand. -/
namespace Go.Proofs.Ytlkemknhmfjdpaa.P
open Go.RowKit Go.Proofs.YtlkemknhmfjdpaaW.PrintWords Go.Proofs.YtlkemknhmfjdpaaW.PrintLast Go.Proofs.YtlkemknhmfjdpaaW.PrintMore
attribute [local go_sem] max2_int min2_int max_two min_two max_three min_three max_four min_four
set_option linter.unusedVariables false
set_option linter.unusedSimpArgs false

set_option maxHeartbeats 8000000 in
set_option maxRecDepth 100000 in
theorem pi3_bad (s : ByteArray) (w : World) (hs : s.size ≤ 1000000) (c : Int) (h1 : 1 ≤ s.size) (hk0 : IntKind.i64.wrap (numAt s 0 1) = 3) (h2 : s.size ≤ 1024) (h3 : viewE s 1 = c) (hc : c ≠ 0) :
    Calls Try.prog 12 #[.string s] w fun e w' => e = .returned (.tuple #[.agg #[.int .i64 0, .string ⟨#[]⟩, .int .u32 0, .int .u64 0, .bool false, .bool false, .int .u64 0, .int .u64 0, .int .i64 0, .int .u64 0, .slice none 0 0, .int .u64 0, .int .u64 0, .int .i64 0, .int .u64 0, .int .u64 0, .int .i64 0, .int .i64 0], .int .i64 c]) ∧ Below w.heap.size w w' := by
  obtain ⟨x0, hx0⟩ : ∃ x, x = numAt s 0 1 := ⟨_, rfl⟩
  have HX0 := Aside0.mk hx0
  have HS := Aside0.mk hs
  rw [← hx0] at hk0
  have HE := Aside0.mk h3
  have HCC := Aside0.mk hc
  have HN := Aside0.mk (show 1 ≤ s.size ∧ s.size ≤ 1024 from ⟨h1, h2⟩)
  have b0 : decide (1024 < (s.size : Int)) = false := decide_eq_false (by omega)
  clear hs h1 h2 h3 hc hx0
  have hmf : ∀ (fn : Fn) (first cap : Array Value) (w : World), (Instr.makeFunc fn first cap).run Try.prog w = .ok (.func fn first cap) w := fun _ _ _ _ => rfl
  go_enter_defers Try.func12, Try.ntmps12
  go_upto_region 4 with (first | (go_at_call 25; (with_reducible refine (num_New.calls s s 0 (iW w) _ (Below.refl _ _) rfl).mono ?_); rintro e w1 ⟨g, rfl, hi, hb, _⟩; have HP0 := Aside0.mk (newP (w := w) 34 (iW_b0 w) (iW_b1 w) (by simp) hi (show Below w.heap.size w w1 from (below_alloc (below_alloc (Below.refl _ _) _) _).trans (hb.mono (by simp; omega))) hb); have r4 := cellAt (i := 0) HP0.out.box rfl; clear hi hb) | (go_at_call 27; (with_reducible refine (reader_num g s 0 1 w _ HP0.out.rd HP0.out.bel (by omega) (by have := HN.out; omega) (by omega) (by omega) HS.out).mono ?_); clear r4; rintro e w2 ⟨rfl, hi, hb, hk⟩; rw [← HX0.out]; have HP1 := Aside0.mk (HP0.out.call (show IsS93 w w2 g s 1 by simpa using hi) hb hk); have r4 := cellAt (i := 0) HP1.out.box rfl; have k0 := cellAt (i := 0) HP1.out.t2 rfl; have f0 := blk_frozen HP1.out.t2 0; clear hi hb hk))
  have HP2 := Aside0.mk (show PS 34 w (w2.setCell ⟨w.heap.size, 0, none⟩ (.int .i64 3)) g w1.heap.size s 1 #[.int .i64 3, .string ⟨#[]⟩, .int .u32 0, .int .u64 0, .bool false, .bool false, .int .u64 0, .int .u64 0, .int .i64 0, .int .u64 0, .slice none 0 0, .int .u64 0, .int .u64 0, .int .i64 0, .int .u64 0, .int .u64 0, .int .i64 0, .int .i64 0] from HP1.out.set 0 _)
  clear r4 k0 f0
  generalize w2.setCell ⟨w.heap.size, 0, none⟩ (.int .i64 3) = W2 at HP2 ⊢
  have r4 := cellAt (i := 0) HP2.out.box rfl
  have k0 := cellAt (i := 0) HP2.out.t2 rfl
  go_wp2_with (first | (go_at_call 26; (with_reducible refine (bad_no _ _).mono ?_); rintro e w_ ⟨rfl, rfl⟩) | (go_at_call 34; (with_reducible refine (reader_view_bad g s 1 c w _ HP2.out.rd HP2.out.bel (by omega) (by have := HN.out; omega) HS.out HE.out HCC.out).mono ?_); clear r4 k0; rintro e w9 ⟨rfl, hb, hk⟩; have HRB := Aside0.mk (show _ ∧ _ ∧ Below w.heap.size w _ from ⟨hk.blk HP2.out.t2 (by have := HP2.out.gg; omega) (by simp), hk.blk HP2.out.t3 (by have := HP2.out.gg; omega) (by simp), hb⟩); clear hb hk))
  refine leaves_cons (f := 33) (args := #[.pointer (some ⟨w.heap.size, 0, none⟩), .pointer (some ⟨w.heap.size + 1, 0, none⟩)]) (by simp) (by simp [go_sem]) ?_
  refine (parseItem_catch w.heap.size (w.heap.size + 1) _ rfl 0 c HCC.out _ HRB.out.1 HRB.out.2.1).mono ?_
  rintro e u' w'' ⟨rfl, rfl, k0, k1, hbl⟩
  have hb := hbl w HRB.out.2.2 (Nat.le_refl _) (by omega)
  exact ⟨_, results_cells2 rfl rfl rfl (run_loadVar_row (P := Try.prog) w'' w.heap.size 34 34 _ (0, 0) _ k0 Try.underlying34 rfl (by kernel_rfl)) (load_err k1), rfl, hb⟩
set_option maxHeartbeats 8000000 in
set_option maxRecDepth 100000 in
theorem pi3_end (s : ByteArray) (w : World) (hs : s.size ≤ 1000000) (h1 : 1 ≤ s.size) (hk0 : IntKind.i64.wrap (numAt s 0 1) = 3) (h2 : s.size ≤ 1024) (h3 : viewE s 1 = 0) (h4 : 26 < s.size) :
    Calls Try.prog 12 #[.string s] w fun e w' => e = .returned (.tuple #[.agg #[.int .i64 0, .string ⟨#[]⟩, .int .u32 0, .int .u64 0, .bool false, .bool false, .int .u64 0, .int .u64 0, .int .i64 0, .int .u64 0, .slice none 0 0, .int .u64 0, .int .u64 0, .int .i64 0, .int .u64 0, .int .u64 0, .int .i64 0, .int .i64 0], .int .i64 4]) ∧ Below w.heap.size w w' := by
  obtain ⟨x0, hx0⟩ : ∃ x, x = numAt s 0 1 := ⟨_, rfl⟩
  have HX0 := Aside0.mk hx0
  have HS := Aside0.mk hs
  rw [← hx0] at hk0
  have HE := Aside0.mk h3
  obtain ⟨xv, hxv⟩ : ∃ x, x = viewAt s 1 := ⟨_, rfl⟩
  have HXV := Aside0.mk hxv
  have HN := Aside0.mk (show 26 < s.size from h4)
  have b0 : decide (1024 < (s.size : Int)) = false := decide_eq_false (by omega)
  clear hs h1 h2 h3 h4 hx0 hxv
  have hmf : ∀ (fn : Fn) (first cap : Array Value) (w : World), (Instr.makeFunc fn first cap).run Try.prog w = .ok (.func fn first cap) w := fun _ _ _ _ => rfl
  go_enter_defers Try.func12, Try.ntmps12
  go_upto_region 4 with (first | (go_at_call 25; (with_reducible refine (num_New.calls s s 0 (iW w) _ (Below.refl _ _) rfl).mono ?_); rintro e w1 ⟨g, rfl, hi, hb, _⟩; have HP0 := Aside0.mk (newP (w := w) 34 (iW_b0 w) (iW_b1 w) (by simp) hi (show Below w.heap.size w w1 from (below_alloc (below_alloc (Below.refl _ _) _) _).trans (hb.mono (by simp; omega))) hb); have r4 := cellAt (i := 0) HP0.out.box rfl; clear hi hb) | (go_at_call 27; (with_reducible refine (reader_num g s 0 1 w _ HP0.out.rd HP0.out.bel (by omega) (by have := HN.out; omega) (by omega) (by omega) HS.out).mono ?_); clear r4; rintro e w2 ⟨rfl, hi, hb, hk⟩; rw [← HX0.out]; have HP1 := Aside0.mk (HP0.out.call (show IsS93 w w2 g s 1 by simpa using hi) hb hk); have r4 := cellAt (i := 0) HP1.out.box rfl; have k0 := cellAt (i := 0) HP1.out.t2 rfl; have f0 := blk_frozen HP1.out.t2 0; clear hi hb hk))
  have HP2 := Aside0.mk (show PS 34 w (w2.setCell ⟨w.heap.size, 0, none⟩ (.int .i64 3)) g w1.heap.size s 1 #[.int .i64 3, .string ⟨#[]⟩, .int .u32 0, .int .u64 0, .bool false, .bool false, .int .u64 0, .int .u64 0, .int .i64 0, .int .u64 0, .slice none 0 0, .int .u64 0, .int .u64 0, .int .i64 0, .int .u64 0, .int .u64 0, .int .i64 0, .int .i64 0] from HP1.out.set 0 _)
  clear r4 k0 f0
  generalize w2.setCell ⟨w.heap.size, 0, none⟩ (.int .i64 3) = W2 at HP2 ⊢
  have r4 := cellAt (i := 0) HP2.out.box rfl
  have k0 := cellAt (i := 0) HP2.out.t2 rfl
  go_upto_region 17 with (first | (go_at_call 26; (with_reducible refine (bad_no _ _).mono ?_); rintro e w_ ⟨rfl, rfl⟩) | (go_at_call 34; (with_reducible refine (reader_view_good g s 1 w _ HP2.out.rd HP2.out.bel (by omega) HS.out HE.out).mono ?_); clear r4 k0; rintro e w7 ⟨rfl, hi, hb, hk⟩; have HP3 := Aside0.mk (HP2.out.call (show IsS93 w w7 g s 26 by simpa using hi) hb hk); rw [← HXV.out]; have r4 := cellAt (i := 0) HP3.out.box rfl; have s11 := cellAt (i := 11) HP3.out.t2 rfl; have f11 := blk_frozen HP3.out.t2 11; have s12 := cellAt (i := 12) HP3.out.t2 rfl; have f12 := blk_frozen HP3.out.t2 12; have s13 := cellAt (i := 13) HP3.out.t2 rfl; have f13 := blk_frozen HP3.out.t2 13; have s14 := cellAt (i := 14) HP3.out.t2 rfl; have f14 := blk_frozen HP3.out.t2 14; clear hi hb hk))
  have HP4 := Aside0.mk (show PS 34 w ((((w7.setCell ⟨w.heap.size, 11, none⟩ (.int .u64 xv.f0)).setCell ⟨w.heap.size, 12, none⟩ (.int .u64 xv.f1.f0)).setCell ⟨w.heap.size, 13, none⟩ (.int .i64 xv.f1.f1)).setCell ⟨w.heap.size, 14, none⟩ (.int .u64 xv.f2)) g w1.heap.size s 26 #[.int .i64 3, .string ⟨#[]⟩, .int .u32 0, .int .u64 0, .bool false, .bool false, .int .u64 0, .int .u64 0, .int .i64 0, .int .u64 0, .slice none 0 0, .int .u64 xv.f0, .int .u64 xv.f1.f0, .int .i64 xv.f1.f1, .int .u64 xv.f2, .int .u64 0, .int .i64 0, .int .i64 0] from ((((HP3.out.set 11 (.int .u64 xv.f0)).set 12 (.int .u64 xv.f1.f0)).set 13 (.int .i64 xv.f1.f1)).set 14 (.int .u64 xv.f2)))
  clear r4 s11 s12 s13 s14 f11 f12 f13 f14
  generalize ((((w7.setCell ⟨w.heap.size, 11, none⟩ (.int .u64 xv.f0)).setCell ⟨w.heap.size, 12, none⟩ (.int .u64 xv.f1.f0)).setCell ⟨w.heap.size, 13, none⟩ (.int .i64 xv.f1.f1)).setCell ⟨w.heap.size, 14, none⟩ (.int .u64 xv.f2)) = W4 at HP4 ⊢
  have r4 := cellAt (i := 0) HP4.out.box rfl
  have k0 := cellAt (i := 0) HP4.out.t2 rfl
  go_wp2_with (first | (go_at_call 29; (with_reducible refine (reader_end_bad g s (26) w _ HP4.out.rd HP4.out.bel (by have := HN.out; omega) (by have := HN.out; omega) HS.out).mono ?_); clear r4; rintro e w9 ⟨rfl, hb, hk⟩; have HRB := Aside0.mk (show _ ∧ _ ∧ Below w.heap.size w _ from ⟨hk.blk HP4.out.t2 (by have := HP4.out.gg; omega) (by simp), hk.blk HP4.out.t3 (by have := HP4.out.gg; omega) (by simp), hb⟩); clear hb hk))
  refine leaves_cons (f := 33) (args := #[.pointer (some ⟨w.heap.size, 0, none⟩), .pointer (some ⟨w.heap.size + 1, 0, none⟩)]) (by simp) (by simp [go_sem]) ?_
  refine (parseItem_catch w.heap.size (w.heap.size + 1) _ rfl 0 4 (by decide) _ HRB.out.1 HRB.out.2.1).mono ?_
  rintro e u' w'' ⟨rfl, rfl, k0, k1, hbl⟩
  have hb := hbl w HRB.out.2.2 (Nat.le_refl _) (by omega)
  exact ⟨_, results_cells2 rfl rfl rfl (run_loadVar_row (P := Try.prog) w'' w.heap.size 34 34 _ (0, 0) _ k0 Try.underlying34 rfl (by kernel_rfl)) (load_err k1), rfl, hb⟩
set_option maxHeartbeats 8000000 in
set_option maxRecDepth 100000 in
theorem pi3_good (s : ByteArray) (w : World) (hs : s.size ≤ 1000000) (h1 : 1 ≤ s.size) (hk0 : IntKind.i64.wrap (numAt s 0 1) = 3) (h2 : s.size ≤ 1024) (h3 : viewE s 1 = 0) (h4 : 26 = s.size) :
    Calls Try.prog 12 #[.string s] w fun e w' => e = .returned (.tuple #[.agg #[.int .i64 3, .string ⟨#[]⟩, .int .u32 0, .int .u64 0, .bool false, .bool false, .int .u64 0, .int .u64 0, .int .i64 0, .int .u64 0, .slice none 0 0, .int .u64 (viewAt s 1).f0, .int .u64 (viewAt s 1).f1.f0, .int .i64 (viewAt s 1).f1.f1, .int .u64 (viewAt s 1).f2, .int .u64 0, .int .i64 0, .int .i64 0], .int .i64 0]) ∧ Below w.heap.size w w' := by
  obtain ⟨x0, hx0⟩ : ∃ x, x = numAt s 0 1 := ⟨_, rfl⟩
  have HX0 := Aside0.mk hx0
  have HS := Aside0.mk hs
  rw [← hx0] at hk0
  have HE := Aside0.mk h3
  obtain ⟨xv, hxv⟩ : ∃ x, x = viewAt s 1 := ⟨_, rfl⟩
  have HXV := Aside0.mk hxv
  have HN := Aside0.mk (show 26 = s.size from h4)
  have b0 : decide (1024 < (s.size : Int)) = false := decide_eq_false (by omega)
  rw [← hxv]
  clear hs h1 h2 h3 h4 hx0 hxv
  have hmf : ∀ (fn : Fn) (first cap : Array Value) (w : World), (Instr.makeFunc fn first cap).run Try.prog w = .ok (.func fn first cap) w := fun _ _ _ _ => rfl
  go_enter_defers Try.func12, Try.ntmps12
  go_upto_region 4 with (first | (go_at_call 25; (with_reducible refine (num_New.calls s s 0 (iW w) _ (Below.refl _ _) rfl).mono ?_); rintro e w1 ⟨g, rfl, hi, hb, _⟩; have HP0 := Aside0.mk (newP (w := w) 34 (iW_b0 w) (iW_b1 w) (by simp) hi (show Below w.heap.size w w1 from (below_alloc (below_alloc (Below.refl _ _) _) _).trans (hb.mono (by simp; omega))) hb); have r4 := cellAt (i := 0) HP0.out.box rfl; clear hi hb) | (go_at_call 27; (with_reducible refine (reader_num g s 0 1 w _ HP0.out.rd HP0.out.bel (by omega) (by have := HN.out; omega) (by omega) (by omega) HS.out).mono ?_); clear r4; rintro e w2 ⟨rfl, hi, hb, hk⟩; rw [← HX0.out]; have HP1 := Aside0.mk (HP0.out.call (show IsS93 w w2 g s 1 by simpa using hi) hb hk); have r4 := cellAt (i := 0) HP1.out.box rfl; have k0 := cellAt (i := 0) HP1.out.t2 rfl; have f0 := blk_frozen HP1.out.t2 0; clear hi hb hk))
  have HP2 := Aside0.mk (show PS 34 w (w2.setCell ⟨w.heap.size, 0, none⟩ (.int .i64 3)) g w1.heap.size s 1 #[.int .i64 3, .string ⟨#[]⟩, .int .u32 0, .int .u64 0, .bool false, .bool false, .int .u64 0, .int .u64 0, .int .i64 0, .int .u64 0, .slice none 0 0, .int .u64 0, .int .u64 0, .int .i64 0, .int .u64 0, .int .u64 0, .int .i64 0, .int .i64 0] from HP1.out.set 0 _)
  clear r4 k0 f0
  generalize w2.setCell ⟨w.heap.size, 0, none⟩ (.int .i64 3) = W2 at HP2 ⊢
  have r4 := cellAt (i := 0) HP2.out.box rfl
  have k0 := cellAt (i := 0) HP2.out.t2 rfl
  go_upto_region 17 with (first | (go_at_call 26; (with_reducible refine (bad_no _ _).mono ?_); rintro e w_ ⟨rfl, rfl⟩) | (go_at_call 34; (with_reducible refine (reader_view_good g s 1 w _ HP2.out.rd HP2.out.bel (by omega) HS.out HE.out).mono ?_); clear r4 k0; rintro e w7 ⟨rfl, hi, hb, hk⟩; have HP3 := Aside0.mk (HP2.out.call (show IsS93 w w7 g s 26 by simpa using hi) hb hk); rw [← HXV.out]; have r4 := cellAt (i := 0) HP3.out.box rfl; have s11 := cellAt (i := 11) HP3.out.t2 rfl; have f11 := blk_frozen HP3.out.t2 11; have s12 := cellAt (i := 12) HP3.out.t2 rfl; have f12 := blk_frozen HP3.out.t2 12; have s13 := cellAt (i := 13) HP3.out.t2 rfl; have f13 := blk_frozen HP3.out.t2 13; have s14 := cellAt (i := 14) HP3.out.t2 rfl; have f14 := blk_frozen HP3.out.t2 14; clear hi hb hk))
  have HP4 := Aside0.mk (show PS 34 w ((((w7.setCell ⟨w.heap.size, 11, none⟩ (.int .u64 xv.f0)).setCell ⟨w.heap.size, 12, none⟩ (.int .u64 xv.f1.f0)).setCell ⟨w.heap.size, 13, none⟩ (.int .i64 xv.f1.f1)).setCell ⟨w.heap.size, 14, none⟩ (.int .u64 xv.f2)) g w1.heap.size s 26 #[.int .i64 3, .string ⟨#[]⟩, .int .u32 0, .int .u64 0, .bool false, .bool false, .int .u64 0, .int .u64 0, .int .i64 0, .int .u64 0, .slice none 0 0, .int .u64 xv.f0, .int .u64 xv.f1.f0, .int .i64 xv.f1.f1, .int .u64 xv.f2, .int .u64 0, .int .i64 0, .int .i64 0] from ((((HP3.out.set 11 (.int .u64 xv.f0)).set 12 (.int .u64 xv.f1.f0)).set 13 (.int .i64 xv.f1.f1)).set 14 (.int .u64 xv.f2)))
  clear r4 s11 s12 s13 s14 f11 f12 f13 f14
  generalize ((((w7.setCell ⟨w.heap.size, 11, none⟩ (.int .u64 xv.f0)).setCell ⟨w.heap.size, 12, none⟩ (.int .u64 xv.f1.f0)).setCell ⟨w.heap.size, 13, none⟩ (.int .i64 xv.f1.f1)).setCell ⟨w.heap.size, 14, none⟩ (.int .u64 xv.f2)) = W4 at HP4 ⊢
  have r4 := cellAt (i := 0) HP4.out.box rfl
  have k0 := cellAt (i := 0) HP4.out.t2 rfl
  go_wp2_with (first | (go_at_call 29; (with_reducible refine (reader_end g s (26) w _ HP4.out.rd HP4.out.bel (by have := HN.out; omega) (by have := HN.out; omega) HS.out).mono ?_); clear r4; rintro e w9 ⟨rfl, hb, hk⟩; have HT9 := Aside0.mk (hk.blk HP4.out.t2 (by have := HP4.out.gg; omega) (by simp)); have HU9 := Aside0.mk (hk.blk HP4.out.t3 (by have := HP4.out.gg; omega) (by simp)); have HB9 := Aside0.mk hb; clear hb hk) | ((with_reducible refine gate_dst (N := 96) rfl ?_); refine load_event rfl (.tmp 2) 34 rfl rfl (load34 HT9.out) ?_) | ((with_reducible refine gate_store (t := 34) (p := 2) rfl ?_); refine store_row_event rfl (ty := 34) (p := 2) rfl rfl w.heap.size #[.int .i64 3, .string ⟨#[]⟩, .int .u32 0, .int .u64 0, .bool false, .bool false, .int .u64 0, .int .u64 0, .int .i64 0, .int .u64 0, .slice none 0 0, .int .u64 xv.f0, .int .u64 xv.f1.f0, .int .i64 xv.f1.f1, .int .u64 xv.f2, .int .u64 0, .int .i64 0, .int .i64 0] rfl rfl 34 #[.int .i64 3, .string ⟨#[]⟩, .int .u32 0, .int .u64 0, .bool false, .bool false, .int .u64 0, .int .u64 0, .int .i64 0, .int .u64 0, .slice none 0 0, .int .u64 xv.f0, .int .u64 xv.f1.f0, .int .i64 xv.f1.f1, .int .u64 xv.f2, .int .u64 0, .int .i64 0, .int .i64 0] HT9.out (by kernel_rfl) rfl (by simp [Value.oneCell']) ?_; intro w10 h10; have P10 := Aside0.mk h10; have K3 := Aside0.mk ((h10.far (w.heap.size + 1) (by omega)).trans HU9.out); have d0 := cellAt (i := 0) K3.out rfl; have e0 := blk_frozen K3.out 0; clear h10))
  refine leaves_cons (f := 33) (args := #[.pointer (some ⟨w.heap.size, 0, none⟩), .pointer (some ⟨w.heap.size + 1, 0, none⟩)]) (by simp) (by simp [go_sem]) ?_
  refine (parseItem_idle w.heap.size (w.heap.size + 1) _).mono ?_
  rintro e u' w'' ⟨rfl, rfl, rfl⟩
  have k2 := blk_far (p := ⟨w.heap.size + 1, 0, none⟩) P10.out.at_ (show w.heap.size ≠ w.heap.size + 1 by omega) (.int .i64 0)
  refine ⟨_, results_cells2 rfl rfl rfl (run_loadVar_row (P := Try.prog) _ w.heap.size 34 34 _ (0, 0) _ k2 Try.underlying34 rfl (by kernel_rfl)) (load_err (blk_set K3.out 0 _)), ?_⟩
  have hbe := below_set (g := w.heap.size + 1) (j := 0) (v := .int .i64 0) (P10.out.bel w HB9.out (Nat.le_refl _)) (show w.heap.size ≤ w.heap.size + 1 by omega)
  exact ⟨rfl, hbe⟩
end Go.Proofs.Ytlkemknhmfjdpaa.P
