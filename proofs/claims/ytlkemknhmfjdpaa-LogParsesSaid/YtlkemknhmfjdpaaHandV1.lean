import Derived.Test.YtlkemknhmfjdpaaHandT
import Derived.Test.YtlkemknhmfjdpaaHandP
/- Parse, by hand: its panics are caught. -/
namespace Go.Proofs.Ytlkemknhmfjdpaa.P
open Go.RowKit Go.Proofs.YtlkemknhmfjdpaaW.PrintWords Go.Proofs.YtlkemknhmfjdpaaW.PrintLast Go.Proofs.YtlkemknhmfjdpaaW.PrintMore
attribute [local go_sem] max2_int min2_int max_two min_two max_three min_three max_four min_four
set_option linter.unusedVariables false
set_option linter.unusedSimpArgs false

/-! ### Where the results lie, a deferring frame's end asks nothing else of the slots -/
theorem leaves_res {P : Program} {fn : Func} {t1 t2 : Array Value} {R : Ending → World → Prop} (hr : results fn t1 = results fn t2) : ∀ (ds : List Deferred) (u : FrameMode) (w : World), Leaves P fn t1 R ds u w → Leaves P fn t2 R ds u w
  | [], .returning, w, h => by
    obtain ⟨v, h1, h2⟩ := h
    exact ⟨v, hr ▸ h1, h2⟩
  | [], .panicking chain, w, h => h
  | [], .run, w, h => h
  | d :: ds, u, w, h => by
    obtain ⟨h1, fv, cap, f, args, h2, h3, h4⟩ := h
    refine ⟨h1, fv, cap, f, args, h2, h3, h4.mono fun e u' w' hh => ?_⟩
    cases e with
    | returned v => exact leaves_res hr ds _ _ hh
    | panicked c => exact leaves_res hr ds _ _ hh
    | outgrown => exact hh
theorem getD_put (t : Array Value) (d k : Nat) (v u : Value) (h : d ≠ k) : (t.setIfInBounds d v).getD k u = t.getD k u := by
  simp only [Array.getD_eq_getD_getElem?, Array.getElem?_setIfInBounds_ne h]
theorem hq8 (d : Nat) (h2 : d ≠ 2) (h3 : d ≠ 3) {R : Ending → World → Prop} (v : Value) (c : List PanicEntry) (a : Act) (w : World) (h : bodyPostD Try.prog Try.f8 R (.panic c) (a.put (some d) v) w) : bodyPostD Try.prog Try.f8 R (.panic c) a w := by
  refine leaves_res (t1 := (a.put (some d) v).tmps) ?_ _ _ _ h
  simp only [results, Try.results8, Act.put, List.mapM_toArray, List.mapM_cons, List.mapM_nil, getD_put _ _ _ _ _ h2, getD_put _ _ _ _ _ h3]
theorem hq12 (d : Nat) (h2 : d ≠ 2) (h3 : d ≠ 3) {R : Ending → World → Prop} (v : Value) (c : List PanicEntry) (a : Act) (w : World) (h : bodyPostD Try.prog Try.f12 R (.panic c) (a.put (some d) v) w) : bodyPostD Try.prog Try.f12 R (.panic c) a w := by
  refine leaves_res (t1 := (a.put (some d) v).tmps) ?_ _ _ _ h
  simp only [results, Try.results12, Act.put, List.mapM_toArray, List.mapM_cons, List.mapM_nil, getD_put _ _ _ _ _ h2, getD_put _ _ _ _ _ h3]
set_option maxHeartbeats 8000000 in
set_option maxRecDepth 100000 in
theorem parse_catch (b0 b1 : Nat) (x0 x1 x2 x3 x4 x5 x6 : Value) (y c : Int) (hc : c ≠ 0) (w : World) (h0 : w.heap[b0]? = some (.cells #[x0, x1, x2, x3, x4, x5, x6] 32 (0, 0))) (h1 : w.heap[b1]? = some (.cells #[.int .i64 y] 36 (0, 0))) :
    CallsD Try.prog 24 #[.pointer (some ⟨b0, 0, none⟩), .pointer (some ⟨b1, 0, none⟩)] (.panicking ({ v := .iface 36 (.int .i64 c), recovered := false } :: [])) w fun e u' w' =>
      e = .returned (.tuple #[]) ∧ u' = .panicking ({ v := .iface 36 (.int .i64 c), recovered := true } :: []) ∧ w'.heap[b0]? = some (.cells #[.int .u64 0, .int .u32 0, .int .u64 0, .int .u64 0, .int .i64 0, .int .u64 0, .slice none 0 0] 32 (0, 0)) ∧ w'.heap[b1]? = some (.cells #[.int .i64 c] 36 (0, 0)) ∧ ∀ W0 : World, Below W0.heap.size W0 w → W0.heap.size ≤ b0 → W0.heap.size ≤ b1 → Below W0.heap.size W0 w' := by
  have n1 : b1 ≠ b0 := blk_ne h1 h0 (by decide)
  have c0 : w.cell? ⟨b0, 0, none⟩ = some x0 := cellAt h0 rfl
  have f0 := blk_frozen h0 0
  have c1 : w.cell? ⟨b0, 1, none⟩ = some x1 := cellAt h0 rfl
  have f1 := blk_frozen h0 1
  have c2 : w.cell? ⟨b0, 2, none⟩ = some x2 := cellAt h0 rfl
  have f2 := blk_frozen h0 2
  have c3 : w.cell? ⟨b0, 3, none⟩ = some x3 := cellAt h0 rfl
  have f3 := blk_frozen h0 3
  have c4 : w.cell? ⟨b0, 4, none⟩ = some x4 := cellAt h0 rfl
  have f4 := blk_frozen h0 4
  have c5 : w.cell? ⟨b0, 5, none⟩ = some x5 := cellAt h0 rfl
  have f5 := blk_frozen h0 5
  have c6 : w.cell? ⟨b0, 6, none⟩ = some x6 := cellAt h0 rfl
  have f6 := blk_frozen h0 6
  have k1 := (blk_far (p := ⟨b0, 6, none⟩) (blk_far (p := ⟨b0, 5, none⟩) (blk_far (p := ⟨b0, 4, none⟩) (blk_far (p := ⟨b0, 3, none⟩) (blk_far (p := ⟨b0, 2, none⟩) (blk_far (p := ⟨b0, 1, none⟩) (blk_far (p := ⟨b0, 0, none⟩) h1 n1 (.int .u64 0)) n1 (.int .u32 0)) n1 (.int .u64 0)) n1 (.int .u64 0)) n1 (.int .i64 0)) n1 (.int .u64 0)) n1 (.slice none 0 0))
  have d0 : (((((((w.setCell ⟨b0, 0, none⟩ (.int .u64 0)).setCell ⟨b0, 1, none⟩ (.int .u32 0)).setCell ⟨b0, 2, none⟩ (.int .u64 0)).setCell ⟨b0, 3, none⟩ (.int .u64 0)).setCell ⟨b0, 4, none⟩ (.int .i64 0)).setCell ⟨b0, 5, none⟩ (.int .u64 0)).setCell ⟨b0, 6, none⟩ (.slice none 0 0)).cell? ⟨b1, 0, none⟩ = some (.int .i64 y) := cellAt k1 rfl
  have g0 := blk_frozen k1 0
  have hb : (c != 0) = true := bne_iff_ne.mpr hc
  have K1 := Aside0.mk k1
  have N1 := Aside0.mk n1
  have H0 := Aside0.mk h0
  have K0 := Aside0.mk (blk_set (blk_set (blk_set (blk_set (blk_set (blk_set (blk_set h0 0 (.int .u64 0)) 1 (.int .u32 0)) 2 (.int .u64 0)) 3 (.int .u64 0)) 4 (.int .i64 0)) 5 (.int .u64 0)) 6 (.slice none 0 0))
  clear k1 h0 h1 n1 hc
  refine callsD_of_wpS Try.func24 rfl fun c₀ cs hu => ?_
  apply wpS_seq
  apply wpS_region
  simp [wpOpsS, go_sem, recoverD, hu, Try.ntmps24, Exit.thenS]
  refine (caught_err c _).mono ?_
  rintro e w' ⟨rfl, rfl⟩
  refine wpS_of_wp ?_
  change Code.wp _ _ _ { tmps := #[.pointer (some ⟨b0, 0, none⟩), .pointer (some ⟨b1, 0, none⟩), .int .i64 c, .iface 36 (.int .i64 c), .int .i64 c, undef, undef, undef, undef], defers := [] } _
  go_wp2
  refine ⟨rfl, _, rfl, .tuple #[], by simp [results, Try.results24], rfl, rfl, ?_, ?_, ?_⟩
  · exact blk_far (p := ⟨b1, 0, none⟩) K0.out (fun e => N1.out e.symm) _
  · exact blk_set K1.out 0 _
  · intro W0 hB hb0 hb1
    exact below_set (below_set (below_set (below_set (below_set (below_set (below_set (below_set hB hb0) hb0) hb0) hb0) hb0) hb0) hb0) hb1
set_option maxHeartbeats 4000000 in
theorem parse_idle (b0 b1 : Nat) (w : World) :
    CallsD Try.prog 24 #[.pointer (some ⟨b0, 0, none⟩), .pointer (some ⟨b1, 0, none⟩)] .returning w fun e u' w' => e = .returned (.tuple #[]) ∧ u' = .returning ∧ w' = w := by
  refine callsD_of_wpS Try.func24 rfl fun c₀ cs hu => ?_
  apply wpS_seq
  apply wpS_region
  simp [wpOpsS, go_sem, recoverD, hu, Try.ntmps24, Exit.thenS]
  refine (caught_nil _).mono ?_
  rintro e w' ⟨rfl, rfl⟩
  refine wpS_of_wp ?_
  go_wp2
  exact ⟨rfl, .returning, by rw [← hu], .tuple #[], by simp [results, Try.results24], rfl, rfl, rfl⟩
end Go.Proofs.Ytlkemknhmfjdpaa.P
/- Parse's contract, by hand. -/
namespace Go.Proofs.Ytlkemknhmfjdpaa.P
open Go.RowKit Go.Proofs.YtlkemknhmfjdpaaW.PrintWords Go.Proofs.YtlkemknhmfjdpaaW.PrintLast Go.Proofs.YtlkemknhmfjdpaaW.PrintMore
attribute [local go_sem] max2_int min2_int max_two min_two max_three min_three max_four min_four
set_option linter.unusedVariables false
set_option linter.unusedSimpArgs false

/-! ### Records, with all their ends -/
def recN (s : ByteArray) (p : Int) : Int := IntKind.i64.wrap (numAt s (p + 25) 1)
def recE (s : ByteArray) (p : Int) : Int := if viewE s p = 0 then (if s.size < p + 26 then 2 else if 32 < recN s p then 3 else viewsE s (recN s p).toNat (p + 26)) else viewE s p
theorem reader_record_bad (g : Nat) (s : ByteArray) (p : Int) (w0 w : World) (hI : IsS93 w0 w g s p) (hB : Below w0.heap.size w0 w) (h0 : 0 ≤ p) (hs : s.size ≤ 1000000) (c : Int) (h1 : p ≤ s.size) (h : recE s p = c) (hc : c ≠ 0) :
    Calls Try.prog 28 #[.agg #[.pointer (some ⟨g, 0, none⟩)]] w fun e w' => e = gives c ∧ Below w0.heap.size w0 w' ∧ KeepBut w w' g none := by
  unfold recE at h
  by_cases hv : viewE s p = 0
  · rw [if_pos hv] at h
    by_cases h2 : s.size < p + 26
    · rw [if_pos h2] at h
      subst h
      exact reader_record_bad2 g s p w0 w hI hB h0 hs hv h2
    rw [if_neg h2] at h
    by_cases h3 : 32 < recN s p
    · rw [if_pos h3] at h
      subst h
      exact reader_record_bad3 g s p w0 w hI hB h0 hs hv (by omega) h3
    rw [if_neg h3] at h
    exact reader_record_bad4 g s p w0 w hI hB h0 hs c hv (by omega) (show recN s p ≤ 32 by omega) h hc
  · rw [if_neg hv] at h
    exact reader_record_bad1 g s p w0 w hI hB h0 hs c h1 h hc
theorem recE_zero {s : ByteArray} {p : Int} (h : recE s p = 0) : viewE s p = 0 ∧ p + 26 ≤ s.size ∧ recN s p ≤ 32 ∧ viewsE s (recN s p).toNat (p + 26) = 0 := by
  unfold recE at h
  split at h
  · split at h
    · cases h
    · split at h
      · cases h
      · exact ⟨by assumption, by omega, by omega, h⟩
  · exact absurd h (by assumption)
theorem reader_record_good (g : Nat) (s : ByteArray) (p : Int) (w0 w : World) (hI : IsS93 w0 w g s p) (hB : Below w0.heap.size w0 w) (h0 : 0 ≤ p) (hs : s.size ≤ 1000000) (hE : recE s p = 0) (xv : S27) (hxv : xv = viewAt s p) (l : List S27) (hl : l = viewsAt s (recN s p).toNat (p + 26)) (q : Int) (hq : q = p + 26 + 25 * ((recN s p).toNat : Int)) :
    Calls Try.prog 28 #[.agg #[.pointer (some ⟨g, 0, none⟩)]] w fun e w' => ∃ v : Value, e = .returned (.agg #[.int .u64 xv.f0, .int .u64 xv.f1.f0, .int .i64 xv.f1.f1, .int .u64 xv.f2, v]) ∧ Kd.R k27 27 w' w.heap.size (fun _ => True) v l ∧ IsS93 w0 w' g s q ∧ Below w0.heap.size w0 w' ∧ KeepBut w w' g none := by
  subst hxv hl hq
  have h := recE_zero hE
  exact reader_record g s p w0 w hI hB h0 hs h.1 h.2.1 h.2.2.1 h.2.2.2
/-- Where views end. -/
theorem viewsE_end {s : ByteArray} : ∀ (n : Nat) (p : Int), p ≤ s.size → viewsE s n p = 0 → p + 25 * (n : Int) ≤ s.size
  | 0, p, h, _ => by omega
  | n + 1, p, h, he => by
    unfold viewsE at he
    by_cases hv : viewE s p = 0
    · rw [if_pos hv] at he
      have := viewsE_end n (p + 25) (viewE_zero hv).1 he
      omega
    · rw [if_neg hv] at he
      exact absurd he hv
theorem recE_end {s : ByteArray} {p : Int} (h : recE s p = 0) : p + 26 + 25 * ((recN s p).toNat : Int) ≤ s.size := by
  obtain ⟨h1, h2, h3, h4⟩ := recE_zero h
  exact viewsE_end _ _ h2 h4
theorem results_cells2 {P : Program} {fn : Func} {tmps : Array Value} {w : World} {p q : Tmp} {ty1 ty2 : TypeId} {a1 a2 : Addr} {v1 v2 : Value} (hf : fn.results = #[.cell p ty1, .cell q ty2]) (hp : tmps.getD p undef = .pointer (some a1)) (hq : tmps.getD q undef = .pointer (some a2))
    (h1 : (loadVar ty1 a1).run P w = .ok v1 w) (h2 : (loadVar ty2 a2).run P w = .ok v2 w) : (results fn tmps).run P w = .ok (.tuple #[v1, v2]) w := by
  unfold results
  rw [show fn.results = [ResultVar.cell p ty1, ResultVar.cell q ty2].toArray from hf, List.mapM_toArray]
  simp only [Sem.run_bind, Sem.run_map, List.mapM_cons, List.mapM_nil, hp, hq]
  simp [asAddr, h1, h2]
theorem load_err {w : World} {b : Nat} {c : Int} (h : w.heap[b]? = some (.cells #[.int .i64 c] 36 (0, 0))) : (loadVar 36 ⟨b, 0, none⟩).run Try.prog w = .ok (.int .i64 c) w := by
  have c0 : w.cell? ⟨b, 0, none⟩ = some (.int .i64 c) := cellAt h rfl
  go_simp
/-! ### Parse -/
abbrev pW (w : World) : World := (w.alloc (.cells #[.int .u64 0, .int .u32 0, .int .u64 0, .int .u64 0, .int .i64 0, .int .u64 0, .slice none 0 0] 32)).alloc (.cells #[.int .i64 0] 36)
theorem pW_b0 (w : World) : (pW w).heap[w.heap.size]? = some (.cells #[.int .u64 0, .int .u32 0, .int .u64 0, .int .u64 0, .int .i64 0, .int .u64 0, .slice none 0 0] 32 (0, 0)) := heap_old1 (heap_alloc_new w _) _
theorem pW_b1 (w : World) : (pW w).heap[w.heap.size + 1]? = some (.cells #[.int .i64 0] 36 (0, 0)) := by
  have := heap_alloc_new (w.alloc (.cells #[.int .u64 0, .int .u32 0, .int .u64 0, .int .u64 0, .int .i64 0, .int .u64 0, .slice none 0 0] 32)) (.cells #[.int .i64 0] 36)
  simpa using this
/-- What lies in Parse's blocks: the reader's box at b4, the results. -/
structure PS (ty : Nat) (w W : World) (g b4 : Nat) (s : ByteArray) (q : Int) (cs : Array Value) : Prop where
  rd : IsS93 w W g s q
  bel : Below w.heap.size w W
  gg : w.heap.size + 1 < g
  g4 : g < b4
  box : W.heap[b4]? = some (.cells #[.pointer (some ⟨g, 0, none⟩)] 73 (0, 0))
  t2 : W.heap[w.heap.size]? = some (.cells cs ty (0, 0))
  t3 : W.heap[w.heap.size + 1]? = some (.cells #[.int .i64 0] 36 (0, 0))
section
variable {ty : Nat} {w W W1 : World} {g b4 : Nat} {s : ByteArray} {q q1 : Int} {cs : Array Value}
theorem PS.call (h : PS ty w W g b4 s q cs) (hi : IsS93 w W1 g s q1) (hb : Below w.heap.size w W1) (hk : KeepBut W W1 g none) : PS ty w W1 g b4 s q1 cs :=
  ⟨hi, hb, h.gg, h.g4, hk.blk h.box (by have := h.g4; omega) (by simp), hk.blk h.t2 (by have := h.gg; omega) (by simp), hk.blk h.t3 (by have := h.gg; omega) (by simp)⟩
theorem PS.below (h : PS ty w W g b4 s q cs) (hb : Below W.heap.size W W1) : PS ty w W1 g b4 s q cs := h.call (h.rd.below hb) (below_step h.bel hb) (KeepBut.of_below hb g none)
theorem PS.set (h : PS ty w W g b4 s q cs) (i : Nat) (u : Value) : PS ty w (W.setCell ⟨w.heap.size, i, none⟩ u) g b4 s q (cs.setIfInBounds i u) :=
  ⟨h.rd.far (show g ≠ w.heap.size by have := h.gg; omega) u, below_set h.bel (Nat.le_refl _), h.gg, h.g4, blk_far h.box (show b4 ≠ w.heap.size by have := h.gg; have := h.g4; omega) u, blk_set h.t2 i u, blk_far h.t3 (show w.heap.size + 1 ≠ w.heap.size by omega) u⟩
end
theorem newP {w w1 : World} {g : Nat} {s : ByteArray} (ty : Nat) {cs : Array Value} {v : World} (hv1 : v.heap[w.heap.size]? = some (.cells cs ty (0, 0))) (hv2 : v.heap[w.heap.size + 1]? = some (.cells #[.int .i64 0] 36 (0, 0))) (hsz : v.heap.size = w.heap.size + 1 + 1) (hi : IsS93 v w1 g s 0) (hb : Below w.heap.size w w1) (hk : Below v.heap.size v w1) :
    PS ty w (w1.alloc (.cells #[.pointer (some ⟨g, 0, none⟩)] 73)) g w1.heap.size s 0 cs :=
  ⟨(show IsS93 w w1 g s 0 from ⟨hi.1, by have := hi.2; omega⟩).alloc _, below_alloc hb _, by have := hi.2; omega, blk_lt hi.1, heap_alloc_new w1 _, heap_old1 ((hk.block _ (by omega)).trans hv1) _, heap_old1 ((hk.block _ (by omega)).trans hv2) _⟩
set_option maxHeartbeats 8000000 in
set_option maxRecDepth 100000 in
theorem parse_short1 (s : ByteArray) (w : World) (hs : s.size ≤ 1000000) (h1 : s.size < 1) :
    Calls Try.prog 8 #[.string s] w fun e w' => e = .returned (.tuple #[.agg #[.int .u64 0, .int .u32 0, .int .u64 0, .int .u64 0, .int .i64 0, .int .u64 0, .slice none 0 0], .int .i64 2]) ∧ Below w.heap.size w w' := by
  have HS := Aside0.mk hs
  have HN := Aside0.mk h1
  clear hs h1
  have hmf : ∀ (fn : Fn) (first cap : Array Value) (w : World), (Instr.makeFunc fn first cap).run Try.prog w = .ok (.func fn first cap) w := fun _ _ _ _ => rfl
  go_enter_defers Try.func8, Try.ntmps8
  go_wp2_with (first | (go_at_call 25; (with_reducible refine (num_New.calls s s 0 (pW w) _ (Below.refl _ _) rfl).mono ?_); rintro e w1 ⟨g, rfl, hi, hb, _⟩; have HP0 := Aside0.mk (newP (w := w) 32 (pW_b0 w) (pW_b1 w) (by simp) hi (show Below w.heap.size w w1 from (below_alloc (below_alloc (Below.refl _ _) _) _).trans (hb.mono (by simp; omega))) hb); have r4 := cellAt (i := 0) HP0.out.box rfl; clear hi hb) | (go_at_call 27; (with_reducible refine (reader_num_bad g s 0 1 w _ HP0.out.rd HP0.out.bel (by omega) (by have := HN.out; omega) (by have := HN.out; omega) (by omega) (by omega) HS.out).mono ?_); rintro e w9 ⟨rfl, hb, hk⟩; have HRB := Aside0.mk (show _ ∧ _ ∧ Below w.heap.size w _ from ⟨hk.blk HP0.out.t2 (by have := HP0.out.gg; omega) (by simp), hk.blk HP0.out.t3 (by have := HP0.out.gg; omega) (by simp), hb⟩); clear hb hk))
  clear r4
  refine leaves_cons (f := 24) (args := #[.pointer (some ⟨w.heap.size, 0, none⟩), .pointer (some ⟨w.heap.size + 1, 0, none⟩)]) (by simp) (by simp [go_sem]) ?_
  refine (parse_catch w.heap.size (w.heap.size + 1) _ _ _ _ _ _ _ 0 2 (by decide) _ HRB.out.1 HRB.out.2.1).mono ?_
  rintro e u' w'' ⟨rfl, rfl, k0, k1, hbl⟩
  have hb := hbl w HRB.out.2.2 (Nat.le_refl _) (by omega)
  exact ⟨_, results_cells2 rfl rfl rfl (run_loadVar_row (P := Try.prog) w'' w.heap.size 32 32 _ (0, 0) _ k0 Try.underlying32 rfl (by kernel_rfl)) (load_err k1), rfl, hb⟩
set_option maxHeartbeats 8000000 in
set_option maxRecDepth 100000 in
theorem parse_kind (s : ByteArray) (w : World) (hs : s.size ≤ 1000000) (h1 : 1 ≤ s.size) (h2 : numAt s 0 1 ≠ 1) :
    Calls Try.prog 8 #[.string s] w fun e w' => e = .returned (.tuple #[.agg #[.int .u64 0, .int .u32 0, .int .u64 0, .int .u64 0, .int .i64 0, .int .u64 0, .slice none 0 0], .int .i64 10]) ∧ Below w.heap.size w w' := by
  obtain ⟨x0, hx0⟩ : ∃ x, x = numAt s 0 1 := ⟨_, rfl⟩
  have HX0 := Aside0.mk hx0
  have HS := Aside0.mk hs
  have HN := Aside0.mk h1
  rw [← hx0] at h2
  have b0 : (x0 != 1) = true := bne_iff_ne.mpr h2
  clear hs h1 h2 hx0
  have hmf : ∀ (fn : Fn) (first cap : Array Value) (w : World), (Instr.makeFunc fn first cap).run Try.prog w = .ok (.func fn first cap) w := fun _ _ _ _ => rfl
  go_enter_defers Try.func8, Try.ntmps8
  go_wp2_with (first | (go_at_call 25; (with_reducible refine (num_New.calls s s 0 (pW w) _ (Below.refl _ _) rfl).mono ?_); rintro e w1 ⟨g, rfl, hi, hb, _⟩; have HP0 := Aside0.mk (newP (w := w) 32 (pW_b0 w) (pW_b1 w) (by simp) hi (show Below w.heap.size w w1 from (below_alloc (below_alloc (Below.refl _ _) _) _).trans (hb.mono (by simp; omega))) hb); have r4 := cellAt (i := 0) HP0.out.box rfl; clear hi hb) | (go_at_call 27; (with_reducible refine (reader_num g s 0 1 w _ HP0.out.rd HP0.out.bel (by omega) (by have := HN.out; omega) (by omega) (by omega) HS.out).mono ?_); clear r4; rintro e w_HP1 ⟨rfl, hi, hb, hk⟩; rw [← HX0.out]; have HP1 := Aside0.mk (HP0.out.call (show IsS93 w w_HP1 g s 1 by simpa using hi) hb hk); have r4 := cellAt (i := 0) HP1.out.box rfl; clear hi hb hk) | (go_at_call 26; (with_reducible refine (bad_yes 10 _).mono ?_); rintro e w_ ⟨rfl, rfl⟩))
  clear r4
  have HRB := Aside0.mk (show _ ∧ _ ∧ Below w.heap.size w _ from ⟨HP1.out.t2, HP1.out.t3, HP1.out.bel⟩)
  refine leaves_cons (f := 24) (args := #[.pointer (some ⟨w.heap.size, 0, none⟩), .pointer (some ⟨w.heap.size + 1, 0, none⟩)]) (by simp) (by simp [go_sem]) ?_
  refine (parse_catch w.heap.size (w.heap.size + 1) _ _ _ _ _ _ _ 0 10 (by decide) _ HRB.out.1 HRB.out.2.1).mono ?_
  rintro e u' w'' ⟨rfl, rfl, k0, k1, hbl⟩
  have hb := hbl w HRB.out.2.2 (Nat.le_refl _) (by omega)
  exact ⟨_, results_cells2 rfl rfl rfl (run_loadVar_row (P := Try.prog) w'' w.heap.size 32 32 _ (0, 0) _ k0 Try.underlying32 rfl (by kernel_rfl)) (load_err k1), rfl, hb⟩
set_option maxHeartbeats 8000000 in
set_option maxRecDepth 100000 in
theorem parse_short2 (s : ByteArray) (w : World) (hs : s.size ≤ 1000000) (h1 : 1 ≤ s.size) (h2 : numAt s 0 1 = 1) (h3 : s.size < 9) :
    Calls Try.prog 8 #[.string s] w fun e w' => e = .returned (.tuple #[.agg #[.int .u64 0, .int .u32 0, .int .u64 0, .int .u64 0, .int .i64 0, .int .u64 0, .slice none 0 0], .int .i64 2]) ∧ Below w.heap.size w w' := by
  obtain ⟨x0, hx0⟩ : ∃ x, x = numAt s 0 1 := ⟨_, rfl⟩
  have HX0 := Aside0.mk hx0
  obtain ⟨x1, hx1⟩ : ∃ x, x = numAt s 1 8 := ⟨_, rfl⟩
  have HX1 := Aside0.mk hx1
  obtain ⟨x2, hx2⟩ : ∃ x, x = numAt s 9 4 := ⟨_, rfl⟩
  have HX2 := Aside0.mk hx2
  obtain ⟨y2, hy2⟩ : ∃ y, y = IntKind.u32.wrap x2 := ⟨_, rfl⟩
  have HY2 := Aside0.mk hy2
  have hyr : IntKind.u32.wrap x2 = y2 := hy2.symm
  rw [← hx0] at h2
  have b0 : (x0 != 1) = false := by simpa using h2
  have HS := Aside0.mk hs
  have HN := Aside0.mk (show 1 ≤ s.size ∧ s.size < 9 from ⟨h1, h3⟩)
  clear hs h1 h2 h3 hx0 hx1 hx2 hy2
  have hmf : ∀ (fn : Fn) (first cap : Array Value) (w : World), (Instr.makeFunc fn first cap).run Try.prog w = .ok (.func fn first cap) w := fun _ _ _ _ => rfl
  go_enter_defers Try.func8, Try.ntmps8
  go_wp2_with (first | (go_at_call 25; (with_reducible refine (num_New.calls s s 0 (pW w) _ (Below.refl _ _) rfl).mono ?_); rintro e w1 ⟨g, rfl, hi, hb, _⟩; have HP0 := Aside0.mk (newP (w := w) 32 (pW_b0 w) (pW_b1 w) (by simp) hi (show Below w.heap.size w w1 from (below_alloc (below_alloc (Below.refl _ _) _) _).trans (hb.mono (by simp; omega))) hb); have r4 := cellAt (i := 0) HP0.out.box rfl; clear hi hb) | (go_at_call 27; (with_reducible refine (reader_num g s 0 1 w _ HP0.out.rd HP0.out.bel (by omega) (by have := HN.out; omega) (by omega) (by omega) HS.out).mono ?_); clear r4; rintro e w_HP1 ⟨rfl, hi, hb, hk⟩; rw [← HX0.out]; have HP1 := Aside0.mk (HP0.out.call (show IsS93 w w_HP1 g s 1 by simpa using hi) hb hk); have r4 := cellAt (i := 0) HP1.out.box rfl; clear hi hb hk) | (go_at_call 26; (with_reducible refine (bad_no _ _).mono ?_); rintro e w_ ⟨rfl, rfl⟩))
  refine start_ (n := 11) (S := fun w' => w'.cell? ⟨w1.heap.size, 0, none⟩ = some (.pointer (some ⟨g, 0, none⟩))) (ds := [8, 10]) #[false, false, false, false, false, false, false, false, false, false, false] (by kernel_rfl) rfl rfl (show _ = _ from r4) (fun hHeld => ?_)
  have HPd := Aside0.mk (HP1.out.below (W1 := w_HP1.drew) (below_drew (Below.refl _ _)))
  generalize w_HP1.drew = wd at HPd hHeld ⊢
  refine pure_ (i := 0) (N := some 14) (v := ?_) (a' := ?_) #[true, false, false, false, false, false, false, false, false, false, false] rfl rfl (by kernel_rfl) (fun c a w h => hq8 14 (by decide) (by decide) _ c a w h) (Or.inl ⟨by rfl, ?_⟩) ?_ ?_
  rotate_left
  · intro w'
    go_simp
    with_reducible rfl
  rotate_left
  · simp only [Act.put, List.setIfInBounds_toArray, List.set_cons_zero, List.set_cons_succ, i64_w, i32_w]
    rfl
  refine take_ (i := 1) (N := some 15) (v := ?_) (a' := ?_) #[true, true, false, false, false, false, false, false, false, false, false] rfl rfl (by kernel_rfl) (fun c a w h => hq8 15 (by decide) (by decide) _ c a w h) (Or.inl ⟨by rfl, ?_⟩) hHeld ?_ ?_
  rotate_left
  · rintro w' s0
    go_simp
    with_reducible rfl
  rotate_left
  · simp only [Act.put, List.setIfInBounds_toArray, List.set_cons_zero, List.set_cons_succ, i64_w, i32_w]
    rfl
  refine pure_ (i := 3) (N := some 17) (v := ?_) (a' := ?_) #[true, true, false, true, false, false, false, false, false, false, false] rfl rfl (by kernel_rfl) (fun c a w h => hq8 17 (by decide) (by decide) _ c a w h) (Or.inl ⟨by rfl, ?_⟩) ?_ ?_
  rotate_left
  · intro w'
    go_simp
    with_reducible rfl
  rotate_left
  · simp only [Act.put, List.setIfInBounds_toArray, List.set_cons_zero, List.set_cons_succ, i64_w, i32_w]
    rfl
  refine take_ (i := 4) (N := some 18) (v := ?_) (a' := ?_) #[true, true, false, true, true, false, false, false, false, false, false] rfl rfl (by kernel_rfl) (fun c a w h => hq8 18 (by decide) (by decide) _ c a w h) (Or.inl ⟨by rfl, ?_⟩) hHeld ?_ ?_
  rotate_left
  · rintro w' s0
    go_simp
    with_reducible rfl
  rotate_left
  · simp only [Act.put, List.setIfInBounds_toArray, List.set_cons_zero, List.set_cons_succ, i64_w, i32_w]
    rfl
  refine one_ (i := 2) (N := some 16) #[true, true, true, true, true, false, false, false, false, false, false] rfl rfl (by kernel_rfl) (by decide) (fun K hK => ?_)
  refine goesP_ Try.func27 (by kernel_rfl) rfl #[.pointer (some ⟨g, 0, none⟩), .int .i64 8] (by rfl) rfl rfl (by (try simp only [List.map_toArray, List.map_cons, List.map_nil]); first | done | rfl) ?_
  with_reducible refine (reader_num_bad g s 1 8 w _ HPd.out.rd HPd.out.bel (by omega) (by have := HN.out; omega) (by have := HN.out; omega) (by omega) (by omega) HS.out).mono ?_
  rintro e w9 ⟨rfl, hb, hk⟩
  refine ⟨_, rfl, ?_⟩
  have HRB := Aside0.mk (show _ ∧ _ ∧ Below w.heap.size w _ from ⟨hk.blk HPd.out.t2 (by have := HPd.out.gg; omega) (by simp), hk.blk HPd.out.t3 (by have := HPd.out.gg; omega) (by simp), hb⟩)
  clear hb hk
  refine leaves_cons (f := 24) (args := #[.pointer (some ⟨w.heap.size, 0, none⟩), .pointer (some ⟨w.heap.size + 1, 0, none⟩)]) (by simp) (by simp [go_sem]) ?_
  refine (parse_catch w.heap.size (w.heap.size + 1) _ _ _ _ _ _ _ 0 2 (by decide) _ HRB.out.1 HRB.out.2.1).mono ?_
  rintro e u' w'' ⟨rfl, rfl, k0, k1, hbl⟩
  have hb := hbl w HRB.out.2.2 (Nat.le_refl _) (by omega)
  exact ⟨_, results_cells2 rfl rfl rfl (run_loadVar_row (P := Try.prog) w'' w.heap.size 32 32 _ (0, 0) _ k0 Try.underlying32 rfl (by kernel_rfl)) (load_err k1), rfl, hb⟩
set_option maxHeartbeats 8000000 in
set_option maxRecDepth 100000 in
theorem parse_short3 (s : ByteArray) (w : World) (hs : s.size ≤ 1000000) (h1 : 9 ≤ s.size) (h2 : numAt s 0 1 = 1) (h3 : s.size < 13) :
    Calls Try.prog 8 #[.string s] w fun e w' => e = .returned (.tuple #[.agg #[.int .u64 0, .int .u32 0, .int .u64 0, .int .u64 0, .int .i64 0, .int .u64 0, .slice none 0 0], .int .i64 2]) ∧ Below w.heap.size w w' := by
  obtain ⟨x0, hx0⟩ : ∃ x, x = numAt s 0 1 := ⟨_, rfl⟩
  have HX0 := Aside0.mk hx0
  obtain ⟨x1, hx1⟩ : ∃ x, x = numAt s 1 8 := ⟨_, rfl⟩
  have HX1 := Aside0.mk hx1
  obtain ⟨x2, hx2⟩ : ∃ x, x = numAt s 9 4 := ⟨_, rfl⟩
  have HX2 := Aside0.mk hx2
  obtain ⟨y2, hy2⟩ : ∃ y, y = IntKind.u32.wrap x2 := ⟨_, rfl⟩
  have HY2 := Aside0.mk hy2
  have hyr : IntKind.u32.wrap x2 = y2 := hy2.symm
  rw [← hx0] at h2
  have b0 : (x0 != 1) = false := by simpa using h2
  have HS := Aside0.mk hs
  have HN := Aside0.mk (show 9 ≤ s.size ∧ s.size < 13 from ⟨h1, h3⟩)
  clear hs h1 h2 h3 hx0 hx1 hx2 hy2
  have hmf : ∀ (fn : Fn) (first cap : Array Value) (w : World), (Instr.makeFunc fn first cap).run Try.prog w = .ok (.func fn first cap) w := fun _ _ _ _ => rfl
  go_enter_defers Try.func8, Try.ntmps8
  go_wp2_with (first | (go_at_call 25; (with_reducible refine (num_New.calls s s 0 (pW w) _ (Below.refl _ _) rfl).mono ?_); rintro e w1 ⟨g, rfl, hi, hb, _⟩; have HP0 := Aside0.mk (newP (w := w) 32 (pW_b0 w) (pW_b1 w) (by simp) hi (show Below w.heap.size w w1 from (below_alloc (below_alloc (Below.refl _ _) _) _).trans (hb.mono (by simp; omega))) hb); have r4 := cellAt (i := 0) HP0.out.box rfl; clear hi hb) | (go_at_call 27; (with_reducible refine (reader_num g s 0 1 w _ HP0.out.rd HP0.out.bel (by omega) (by have := HN.out; omega) (by omega) (by omega) HS.out).mono ?_); clear r4; rintro e w_HP1 ⟨rfl, hi, hb, hk⟩; rw [← HX0.out]; have HP1 := Aside0.mk (HP0.out.call (show IsS93 w w_HP1 g s 1 by simpa using hi) hb hk); have r4 := cellAt (i := 0) HP1.out.box rfl; clear hi hb hk) | (go_at_call 26; (with_reducible refine (bad_no _ _).mono ?_); rintro e w_ ⟨rfl, rfl⟩))
  refine start_ (n := 11) (S := fun w' => w'.cell? ⟨w1.heap.size, 0, none⟩ = some (.pointer (some ⟨g, 0, none⟩))) (ds := [8, 10]) #[false, false, false, false, false, false, false, false, false, false, false] (by kernel_rfl) rfl rfl (show _ = _ from r4) (fun hHeld => ?_)
  have HPd := Aside0.mk (HP1.out.below (W1 := w_HP1.drew) (below_drew (Below.refl _ _)))
  generalize w_HP1.drew = wd at HPd hHeld ⊢
  refine pure_ (i := 0) (N := some 14) (v := ?_) (a' := ?_) #[true, false, false, false, false, false, false, false, false, false, false] rfl rfl (by kernel_rfl) (fun c a w h => hq8 14 (by decide) (by decide) _ c a w h) (Or.inl ⟨by rfl, ?_⟩) ?_ ?_
  rotate_left
  · intro w'
    go_simp
    with_reducible rfl
  rotate_left
  · simp only [Act.put, List.setIfInBounds_toArray, List.set_cons_zero, List.set_cons_succ, i64_w, i32_w]
    rfl
  refine take_ (i := 1) (N := some 15) (v := ?_) (a' := ?_) #[true, true, false, false, false, false, false, false, false, false, false] rfl rfl (by kernel_rfl) (fun c a w h => hq8 15 (by decide) (by decide) _ c a w h) (Or.inl ⟨by rfl, ?_⟩) hHeld ?_ ?_
  rotate_left
  · rintro w' s0
    go_simp
    with_reducible rfl
  rotate_left
  · simp only [Act.put, List.setIfInBounds_toArray, List.set_cons_zero, List.set_cons_succ, i64_w, i32_w]
    rfl
  refine pure_ (i := 3) (N := some 17) (v := ?_) (a' := ?_) #[true, true, false, true, false, false, false, false, false, false, false] rfl rfl (by kernel_rfl) (fun c a w h => hq8 17 (by decide) (by decide) _ c a w h) (Or.inl ⟨by rfl, ?_⟩) ?_ ?_
  rotate_left
  · intro w'
    go_simp
    with_reducible rfl
  rotate_left
  · simp only [Act.put, List.setIfInBounds_toArray, List.set_cons_zero, List.set_cons_succ, i64_w, i32_w]
    rfl
  refine take_ (i := 4) (N := some 18) (v := ?_) (a' := ?_) #[true, true, false, true, true, false, false, false, false, false, false] rfl rfl (by kernel_rfl) (fun c a w h => hq8 18 (by decide) (by decide) _ c a w h) (Or.inl ⟨by rfl, ?_⟩) hHeld ?_ ?_
  rotate_left
  · rintro w' s0
    go_simp
    with_reducible rfl
  rotate_left
  · simp only [Act.put, List.setIfInBounds_toArray, List.set_cons_zero, List.set_cons_succ, i64_w, i32_w]
    rfl
  refine one_ (i := 2) (N := some 16) #[true, true, true, true, true, false, false, false, false, false, false] rfl rfl (by kernel_rfl) (by decide) (fun K hK => ?_)
  refine goes_ Try.func27 (by kernel_rfl) rfl #[.pointer (some ⟨g, 0, none⟩), .int .i64 8] (by rfl) rfl rfl (by (try simp only [List.map_toArray, List.map_cons, List.map_nil]); first | done | rfl) ?_
  with_reducible refine (reader_num g s 1 8 w _ HPd.out.rd HPd.out.bel (by omega) (by have := HN.out; omega) (by omega) (by omega) HS.out).mono ?_
  rintro e w5 ⟨rfl, hi, hb, hk⟩
  refine ⟨_, rfl, ?_⟩
  have HP2 := Aside0.mk (HPd.out.call (show IsS93 w w5 g s 9 by simpa using hi) hb hk)
  clear hi hb hk
  refine hK.out _ _ (cellAt (i := 0) HP2.out.box rfl) (fun hHeld => ?_)
  clear hK K
  refine norm_ (a' := ?_) ?_ ?_
  rotate_left
  · show Act.put _ (some 16) _ = _
    simp only [Act.put, List.setIfInBounds_toArray, List.set_cons_zero, List.set_cons_succ, i64_w, i32_w]
    rfl
  refine pure_ (i := 7) (N := some 21) (v := ?_) (a' := ?_) #[true, true, true, true, true, false, false, true, false, false, false] rfl rfl (by kernel_rfl) (fun c a w h => hq8 21 (by decide) (by decide) _ c a w h) (Or.inl ⟨by rfl, ?_⟩) ?_ ?_
  rotate_left
  · intro w'
    go_simp
    with_reducible rfl
  rotate_left
  · simp only [Act.put, List.setIfInBounds_toArray, List.set_cons_zero, List.set_cons_succ, i64_w, i32_w]
    rfl
  refine one_ (i := 5) (N := some 19) #[true, true, true, true, true, true, false, true, false, false, false] rfl rfl (by kernel_rfl) (by decide) (fun K hK => ?_)
  refine goesP_ Try.func27 (by kernel_rfl) rfl #[.pointer (some ⟨g, 0, none⟩), .int .i64 4] (by rfl) rfl rfl (by (try simp only [List.map_toArray, List.map_cons, List.map_nil]); first | done | rfl) ?_
  with_reducible refine (reader_num_bad g s 9 4 w _ HP2.out.rd HP2.out.bel (by omega) (by have := HN.out; omega) (by have := HN.out; omega) (by omega) (by omega) HS.out).mono ?_
  rintro e w9 ⟨rfl, hb, hk⟩
  refine ⟨_, rfl, ?_⟩
  have HRB := Aside0.mk (show _ ∧ _ ∧ Below w.heap.size w _ from ⟨hk.blk HP2.out.t2 (by have := HP2.out.gg; omega) (by simp), hk.blk HP2.out.t3 (by have := HP2.out.gg; omega) (by simp), hb⟩)
  clear hb hk
  refine leaves_cons (f := 24) (args := #[.pointer (some ⟨w.heap.size, 0, none⟩), .pointer (some ⟨w.heap.size + 1, 0, none⟩)]) (by simp) (by simp [go_sem]) ?_
  refine (parse_catch w.heap.size (w.heap.size + 1) _ _ _ _ _ _ _ 0 2 (by decide) _ HRB.out.1 HRB.out.2.1).mono ?_
  rintro e u' w'' ⟨rfl, rfl, k0, k1, hbl⟩
  have hb := hbl w HRB.out.2.2 (Nat.le_refl _) (by omega)
  exact ⟨_, results_cells2 rfl rfl rfl (run_loadVar_row (P := Try.prog) w'' w.heap.size 32 32 _ (0, 0) _ k0 Try.underlying32 rfl (by kernel_rfl)) (load_err k1), rfl, hb⟩
end Go.Proofs.Ytlkemknhmfjdpaa.P
