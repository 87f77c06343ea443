import Derived.Test.YtlkemknhmfjdpaaLogR3
import Derived.Test.YtlkemknhmfjdpaaHandLb
/- ParseItem, by hand. -/
namespace Go.Proofs.Ytlkemknhmfjdpaa.P
open Go.RowKit Go.Proofs.YtlkemknhmfjdpaaW.PrintWords Go.Proofs.YtlkemknhmfjdpaaW.PrintLast Go.Proofs.YtlkemknhmfjdpaaW.PrintMore
attribute [local go_sem] max2_int min2_int max_two min_two max_three min_three max_four min_four
set_option linter.unusedVariables false
set_option linter.unusedSimpArgs false

/-- What lies in the reference's blocks: the result at w's end, the taker at g. -/
structure NS (w W : World) (g : Nat) (s : ByteArray) (p e : Int) : Prop where
  st : IsS85 w W g s p e
  bel : Below w.heap.size w W
  gg : w.heap.size < g
  t2 : W.heap[w.heap.size]? = some (.cells #[.int .u64 0, .int .u32 0, .int .u64 0, .int .u64 0, .int .i64 0, .int .u64 0, .slice none 0 0] 44 (0, 0))
theorem NS.start (w : World) (s : ByteArray) : NS w ((w.alloc (.cells #[.int .u64 0, .int .u32 0, .int .u64 0, .int .u64 0, .int .i64 0, .int .u64 0, .slice none 0 0] 44)).alloc (.cells #[.string s, .int .i64 0, .int .i64 0] 85)) (w.heap.size + 1) s 0 0 :=
  ⟨⟨alloc2_new w _ _, by omega⟩, below_alloc (below_alloc (Below.refl _ _) _) _, by omega, heap_old1 (heap_alloc_new w _) _⟩
theorem NS.call {w W W1 : World} {g : Nat} {s : ByteArray} {p e p1 e1 : Int} (h : NS w W g s p e) (hi : IsS85 w W1 g s p1 e1) (hb : Below w.heap.size w W1) (hk : KeepBut W W1 g none) : NS w W1 g s p1 e1 :=
  ⟨hi, hb, h.gg, hk.blk h.t2 (by have := h.gg; omega) (by simp)⟩
theorem NS.below {w W W1 : World} {g : Nat} {s : ByteArray} {p e : Int} (h : NS w W g s p e) (hb : Below W.heap.size W W1) : NS w W1 g s p e :=
  h.call ⟨bk0 h.st.1 hb, h.st.2⟩ (below_step h.bel hb) (KeepBut.of_below hb g none)
/-- With the value that grows, at b6. -/
structure NT (w W : World) (g b6 : Nat) (s : ByteArray) (p e : Int) (cs : Array Value) : Prop where
  ns : NS w W g s p e
  g6 : g < b6
  t6 : W.heap[b6]? = some (.cells cs 44 (0, 0))
theorem NT.start {w W : World} {g : Nat} {s : ByteArray} {p e : Int} (h : NS w W g s p e) (cs : Array Value) : NT w (W.alloc (.cells cs 44)) g W.heap.size s p e cs :=
  ⟨h.below (below_alloc (Below.refl _ _) _), blk_lt h.st.1, heap_alloc_new W _⟩
theorem NT.call {w W W1 : World} {g b6 : Nat} {s : ByteArray} {p e p1 e1 : Int} {cs : Array Value} (h : NT w W g b6 s p e cs) (hi : IsS85 w W1 g s p1 e1) (hb : Below w.heap.size w W1) (hk : KeepBut W W1 g none) : NT w W1 g b6 s p1 e1 cs :=
  ⟨h.ns.call hi hb hk, h.g6, hk.blk h.t6 (by have := h.g6; omega) (by simp)⟩
theorem NT.set {w W : World} {g b6 : Nat} {s : ByteArray} {p e : Int} {cs : Array Value} (h : NT w W g b6 s p e cs) (i : Nat) (u : Value) : NT w (W.setCell ⟨b6, i, none⟩ u) g b6 s p e (cs.setIfInBounds i u) :=
  ⟨⟨⟨blk_far h.ns.st.1 (show g ≠ b6 by have := h.g6; omega) u, h.ns.st.2⟩, below_set h.ns.bel (by have := h.g6; have := h.ns.gg; omega), h.ns.gg, blk_far h.ns.t2 (show w.heap.size ≠ b6 by have := h.g6; have := h.ns.gg; omega) u⟩, h.g6, blk_set h.t6 i u⟩
theorem results_ct {P : Program} {fn : Func} {tmps : Array Value} {w : World} {p q : Tmp} {ty : TypeId} {a : Addr} {v u : Value} (hf : fn.results = #[.cell p ty, .tmp q]) (hp : tmps.getD p undef = .pointer (some a)) (hq : tmps.getD q undef = u)
    (h1 : (loadVar ty a).run P w = .ok v w) : (results fn tmps).run P w = .ok (.tuple #[v, u]) w := by
  subst hq
  unfold results
  rw [show fn.results = [ResultVar.cell p ty, ResultVar.tmp q].toArray from hf, List.mapM_toArray]
  simp only [Sem.run_bind, Sem.run_map, List.mapM_cons, List.mapM_nil, hp]
  simp [asAddr, h1]
set_option maxHeartbeats 8000000 in
set_option maxRecDepth 100000 in
theorem refParse_good (s : ByteArray) (v1 e1 e2 v2 e3 v3 e4 r0 r1 r2 r3 : Int) (l : List S27) (q e5 e6 : Int) (w : World) (n1 : consortref19_taker_num.f 400 s 0 0 1 = some (v1, s, 1, e1)) (b1 : consortref19_taker_bad.f s 1 e1 10 (v1 != 1) = some (s, 1, e2)) (n2 : consortref19_taker_num.f 400 s 1 e2 8 = some (v2, s, 9, e3)) (n3 : consortref19_taker_num.f 400 s 9 e3 4 = some (v3, s, 13, e4)) (rc : consortref19_taker_record.f 400 s 13 e4 = some (r0, r1, r2, r3, l, s, q, e5)) (b2 : consortref19_taker_bad.f s q e5 4 (decide (q < s.size)) = some (s, q, e6)) (h6 : e6 = 0) :
    Calls Try.prog 15 #[.string s] w fun e w' => ∃ v : Value, e = .returned (.tuple #[.agg #[.int .u64 v2, .int .u32 (IntKind.u32.wrap v3), .int .u64 r0, .int .u64 r1, .int .i64 r2, .int .u64 r3, v], .int .i64 0]) ∧ Kd.R k27 27 w' w.heap.size (fun _ => True) v l ∧ Below w.heap.size w w' := by
  subst h6
  obtain ⟨y3, hy3⟩ : ∃ y, y = IntKind.u32.wrap v3 := ⟨_, rfl⟩
  have hyr : IntKind.u32.wrap v3 = y3 := hy3.symm
  have N1 := Aside0.mk n1
  have B1 := Aside0.mk b1
  have N2 := Aside0.mk n2
  have N3 := Aside0.mk n3
  have R1 := Aside0.mk rc
  have B2 := Aside0.mk b2
  have H0 := Aside0.mk (NS.start w s)
  clear n1 b1 n2 n3 rc b2 hy3
  go_enter Try.func15, Try.ntmps15
  go_upto_region 5 with (first | (go_at_call 38; (with_reducible refine (consortref19_taker_num.calls 400 (w.heap.size + 1) s 0 0 1 v1 s 1 e1 w _ H0.out.st H0.out.bel N1.out).mono ?_); rintro _ w1 ⟨rfl, hi, hb, hk⟩; have H1 := Aside0.mk (H0.out.call hi hb hk); clear hi hb hk) | (go_at_call 39; (with_reducible refine (consortref19_taker_bad.calls (w.heap.size + 1) s 1 e1 10 (v1 != 1) s 1 e2 w _ H1.out.st H1.out.bel B1.out).mono ?_); rintro _ w2 ⟨rfl, hi, hb, hk⟩; have H2 := Aside0.mk (H1.out.call hi hb hk); clear hi hb hk) | (go_at_call 38; (with_reducible refine (consortref19_taker_num.calls 400 (w.heap.size + 1) s 1 e2 8 v2 s 9 e3 w _ H2.out.st H2.out.bel N2.out).mono ?_); rintro _ w3 ⟨rfl, hi, hb, hk⟩; have H3 := Aside0.mk (H2.out.call hi hb hk); clear hi hb hk))
  have K0 := Aside0.mk (NT.start H3.out #[.int .u64 v2, .int .u32 0, .int .u64 0, .int .u64 0, .int .i64 0, .int .u64 0, .slice none 0 0])
  generalize w3.alloc (.cells #[.int .u64 v2, .int .u32 0, .int .u64 0, .int .u64 0, .int .i64 0, .int .u64 0, .slice none 0 0] 44) = W0 at K0 ⊢
  go_upto_region 6 with (go_at_call 38; (with_reducible refine (consortref19_taker_num.calls 400 (w.heap.size + 1) s 9 e3 4 v3 s 13 e4 w _ K0.out.ns.st K0.out.ns.bel N3.out).mono ?_); rintro _ w4 ⟨rfl, hi, hb, hk⟩; have K1 := Aside0.mk (K0.out.call hi hb hk); have s1 := cellAt (i := 1) K1.out.t6 rfl; have f1 := blk_frozen K1.out.t6 1; clear hi hb hk)
  have K2 := Aside0.mk (show NT w (w4.setCell ⟨w3.heap.size, 1, none⟩ (.int .u32 y3)) _ w3.heap.size s 13 e4 #[.int .u64 v2, .int .u32 y3, .int .u64 0, .int .u64 0, .int .i64 0, .int .u64 0, .slice none 0 0] from K1.out.set 1 _)
  clear s1 f1
  generalize w4.setCell ⟨w3.heap.size, 1, none⟩ (.int .u32 y3) = W2 at K2 ⊢
  go_upto_region 7 with (go_at_call 40; (with_reducible refine (consortref19_taker_record.calls 400 (w.heap.size + 1) s 13 e4 r0 r1 r2 r3 l s q e5 w _ K2.out.ns.st K2.out.ns.bel R1.out).mono ?_); rintro _ w5 ⟨v7, rfl, ho, hi, hb, hk⟩; obtain ⟨A7, c7, rfl⟩ := Kd.R_slice ho; have HO := Aside0.mk (Kd.R_lower ho K2.out.ns.bel.size); have K3 := Aside0.mk (K2.out.call hi hb hk); have s2 := cellAt (i := 2) K3.out.t6 rfl; have f2 := blk_frozen K3.out.t6 2; have s3 := cellAt (i := 3) K3.out.t6 rfl; have f3 := blk_frozen K3.out.t6 3; have s4 := cellAt (i := 4) K3.out.t6 rfl; have f4 := blk_frozen K3.out.t6 4; have s5 := cellAt (i := 5) K3.out.t6 rfl; have f5 := blk_frozen K3.out.t6 5; have s6 := cellAt (i := 6) K3.out.t6 rfl; have f6 := blk_frozen K3.out.t6 6; clear ho hi hb hk)
  have K4 := Aside0.mk (show NT w (((((w5.setCell ⟨w3.heap.size, 2, none⟩ (.int .u64 r0)).setCell ⟨w3.heap.size, 3, none⟩ (.int .u64 r1)).setCell ⟨w3.heap.size, 4, none⟩ (.int .i64 r2)).setCell ⟨w3.heap.size, 5, none⟩ (.int .u64 r3)).setCell ⟨w3.heap.size, 6, none⟩ (.slice A7 l.length c7)) _ w3.heap.size s q e5 #[.int .u64 v2, .int .u32 y3, .int .u64 r0, .int .u64 r1, .int .i64 r2, .int .u64 r3, .slice A7 l.length c7] from (((((K3.out.set 2 (.int .u64 r0)).set 3 (.int .u64 r1)).set 4 (.int .i64 r2)).set 5 (.int .u64 r3)).set 6 (.slice A7 l.length c7)))
  clear s2 s3 s4 s5 s6 f2 f3 f4 f5 f6
  have HO4 := Aside0.mk (show Kd.R k27 27 (((((w5.setCell ⟨w3.heap.size, 2, none⟩ (.int .u64 r0)).setCell ⟨w3.heap.size, 3, none⟩ (.int .u64 r1)).setCell ⟨w3.heap.size, 4, none⟩ (.int .i64 r2)).setCell ⟨w3.heap.size, 5, none⟩ (.int .u64 r3)).setCell ⟨w3.heap.size, 6, none⟩ (.slice A7 l.length c7)) w.heap.size (fun _ => True) (.slice A7 l.length c7) l from Kd.R_mono (Kd.R_far (p := ⟨w3.heap.size, 6, none⟩) (Kd.R_far (p := ⟨w3.heap.size, 5, none⟩) (Kd.R_far (p := ⟨w3.heap.size, 4, none⟩) (Kd.R_far (p := ⟨w3.heap.size, 3, none⟩) (Kd.R_far (p := ⟨w3.heap.size, 2, none⟩) (Kd.R_types HO.out K3.out.t6 (by decide)) (fun _ hk => hk.2) (.int .u64 r0)) (fun _ hk => hk.2) (.int .u64 r1)) (fun _ hk => hk.2) (.int .i64 r2)) (fun _ hk => hk.2) (.int .u64 r3)) (fun _ hk => hk.2) (.slice A7 l.length c7)) (ok' := fun _ => True) (fun _ _ => trivial))
  generalize (((((w5.setCell ⟨w3.heap.size, 2, none⟩ (.int .u64 r0)).setCell ⟨w3.heap.size, 3, none⟩ (.int .u64 r1)).setCell ⟨w3.heap.size, 4, none⟩ (.int .i64 r2)).setCell ⟨w3.heap.size, 5, none⟩ (.int .u64 r3)).setCell ⟨w3.heap.size, 6, none⟩ (.slice A7 l.length c7)) = W4 at K4 HO4 ⊢
  have z1 := cellAt (i := 1) K4.out.ns.st.1 rfl
  go_upto_if 39 with (go_at_call 39; (with_reducible refine (consortref19_taker_bad.calls (w.heap.size + 1) s q e5 4 (decide (q < (s.size : Int))) s q 0 w _ K4.out.ns.st K4.out.ns.bel B2.out).mono ?_); rintro _ w6 ⟨rfl, hi, hb, hk⟩; have K5 := Aside0.mk (K4.out.call hi hb hk); have z2 := cellAt (i := 2) K5.out.ns.st.1 rfl; have u0 := cellAt (i := 0) K5.out.t6 rfl; have t0 := cellAt (i := 0) K5.out.ns.t2 rfl; have f0 := blk_frozen K5.out.ns.t2 0; have u1 := cellAt (i := 1) K5.out.t6 rfl; have t1 := cellAt (i := 1) K5.out.ns.t2 rfl; have f1 := blk_frozen K5.out.ns.t2 1; have u2 := cellAt (i := 2) K5.out.t6 rfl; have t2 := cellAt (i := 2) K5.out.ns.t2 rfl; have f2 := blk_frozen K5.out.ns.t2 2; have u3 := cellAt (i := 3) K5.out.t6 rfl; have t3 := cellAt (i := 3) K5.out.ns.t2 rfl; have f3 := blk_frozen K5.out.ns.t2 3; have u4 := cellAt (i := 4) K5.out.t6 rfl; have t4 := cellAt (i := 4) K5.out.ns.t2 rfl; have f4 := blk_frozen K5.out.ns.t2 4; have u5 := cellAt (i := 5) K5.out.t6 rfl; have t5 := cellAt (i := 5) K5.out.ns.t2 rfl; have f5 := blk_frozen K5.out.ns.t2 5; have u6 := cellAt (i := 6) K5.out.t6 rfl; have t6 := cellAt (i := 6) K5.out.ns.t2 rfl; have f6 := blk_frozen K5.out.ns.t2 6; have HO5 := Aside0.mk (Kd.R_mono (Kd.R_keep (Kd.R_types HO4.out K4.out.ns.st.1 (by decide)) hk (fun _ h => h.2)) (ok' := fun _ => True) (fun _ _ => trivial)); clear hi hb hk)
  go_wp2
  refine bodyPost_ret (results_ct rfl rfl rfl (run_loadVar_row (P := Try.prog) _ w.heap.size 44 44 _ (0, 0) _ (blk_set (blk_set (blk_set (blk_set (blk_set (blk_set (blk_set K5.out.ns.t2 0 (.int .u64 v2)) 1 (.int .u32 y3)) 2 (.int .u64 r0)) 3 (.int .u64 r1)) 4 (.int .i64 r2)) 5 (.int .u64 r3)) 6 (.slice A7 l.length c7)) Try.underlying44 rfl (by kernel_rfl))) rfl ?_
  rw [hyr]
  exact ⟨.slice A7 l.length c7, rfl, Kd.R_mono (Kd.R_far (p := ⟨w.heap.size, 6, none⟩) (Kd.R_far (p := ⟨w.heap.size, 5, none⟩) (Kd.R_far (p := ⟨w.heap.size, 4, none⟩) (Kd.R_far (p := ⟨w.heap.size, 3, none⟩) (Kd.R_far (p := ⟨w.heap.size, 2, none⟩) (Kd.R_far (p := ⟨w.heap.size, 1, none⟩) (Kd.R_far (p := ⟨w.heap.size, 0, none⟩) (Kd.R_types HO5.out K5.out.ns.t2 (by decide)) (fun _ hk => hk.2) (.int .u64 v2)) (fun _ hk => hk.2) (.int .u32 y3)) (fun _ hk => hk.2) (.int .u64 r0)) (fun _ hk => hk.2) (.int .u64 r1)) (fun _ hk => hk.2) (.int .i64 r2)) (fun _ hk => hk.2) (.int .u64 r3)) (fun _ hk => hk.2) (.slice A7 l.length c7)) (ok' := fun _ => True) (fun _ _ => trivial), (below_set (below_set (below_set (below_set (below_set (below_set (below_set K5.out.ns.bel (Nat.le_refl _)) (Nat.le_refl _)) (Nat.le_refl _)) (Nat.le_refl _)) (Nat.le_refl _)) (Nat.le_refl _)) (Nat.le_refl _))⟩
set_option maxHeartbeats 8000000 in
set_option maxRecDepth 100000 in
theorem refParse_bad (s : ByteArray) (v1 e1 e2 v2 e3 v3 e4 r0 r1 r2 r3 : Int) (l : List S27) (q e5 e6 : Int) (w : World) (n1 : consortref19_taker_num.f 400 s 0 0 1 = some (v1, s, 1, e1)) (b1 : consortref19_taker_bad.f s 1 e1 10 (v1 != 1) = some (s, 1, e2)) (n2 : consortref19_taker_num.f 400 s 1 e2 8 = some (v2, s, 9, e3)) (n3 : consortref19_taker_num.f 400 s 9 e3 4 = some (v3, s, 13, e4)) (rc : consortref19_taker_record.f 400 s 13 e4 = some (r0, r1, r2, r3, l, s, q, e5)) (b2 : consortref19_taker_bad.f s q e5 4 (decide (q < s.size)) = some (s, q, e6)) (h6 : e6 ≠ 0) :
    Calls Try.prog 15 #[.string s] w fun e w' => e = .returned (.tuple #[.agg #[.int .u64 0, .int .u32 0, .int .u64 0, .int .u64 0, .int .i64 0, .int .u64 0, .slice none 0 0], .int .i64 e6]) ∧ Below w.heap.size w w' := by
  have q0 : (e6 != 0) = true := bne_iff_ne.mpr h6
  clear h6
  obtain ⟨y3, hy3⟩ : ∃ y, y = IntKind.u32.wrap v3 := ⟨_, rfl⟩
  have hyr : IntKind.u32.wrap v3 = y3 := hy3.symm
  have N1 := Aside0.mk n1
  have B1 := Aside0.mk b1
  have N2 := Aside0.mk n2
  have N3 := Aside0.mk n3
  have R1 := Aside0.mk rc
  have B2 := Aside0.mk b2
  have H0 := Aside0.mk (NS.start w s)
  clear n1 b1 n2 n3 rc b2 hy3
  go_enter Try.func15, Try.ntmps15
  go_upto_region 5 with (first | (go_at_call 38; (with_reducible refine (consortref19_taker_num.calls 400 (w.heap.size + 1) s 0 0 1 v1 s 1 e1 w _ H0.out.st H0.out.bel N1.out).mono ?_); rintro _ w1 ⟨rfl, hi, hb, hk⟩; have H1 := Aside0.mk (H0.out.call hi hb hk); clear hi hb hk) | (go_at_call 39; (with_reducible refine (consortref19_taker_bad.calls (w.heap.size + 1) s 1 e1 10 (v1 != 1) s 1 e2 w _ H1.out.st H1.out.bel B1.out).mono ?_); rintro _ w2 ⟨rfl, hi, hb, hk⟩; have H2 := Aside0.mk (H1.out.call hi hb hk); clear hi hb hk) | (go_at_call 38; (with_reducible refine (consortref19_taker_num.calls 400 (w.heap.size + 1) s 1 e2 8 v2 s 9 e3 w _ H2.out.st H2.out.bel N2.out).mono ?_); rintro _ w3 ⟨rfl, hi, hb, hk⟩; have H3 := Aside0.mk (H2.out.call hi hb hk); clear hi hb hk))
  have K0 := Aside0.mk (NT.start H3.out #[.int .u64 v2, .int .u32 0, .int .u64 0, .int .u64 0, .int .i64 0, .int .u64 0, .slice none 0 0])
  generalize w3.alloc (.cells #[.int .u64 v2, .int .u32 0, .int .u64 0, .int .u64 0, .int .i64 0, .int .u64 0, .slice none 0 0] 44) = W0 at K0 ⊢
  go_upto_region 6 with (go_at_call 38; (with_reducible refine (consortref19_taker_num.calls 400 (w.heap.size + 1) s 9 e3 4 v3 s 13 e4 w _ K0.out.ns.st K0.out.ns.bel N3.out).mono ?_); rintro _ w4 ⟨rfl, hi, hb, hk⟩; have K1 := Aside0.mk (K0.out.call hi hb hk); have s1 := cellAt (i := 1) K1.out.t6 rfl; have f1 := blk_frozen K1.out.t6 1; clear hi hb hk)
  have K2 := Aside0.mk (show NT w (w4.setCell ⟨w3.heap.size, 1, none⟩ (.int .u32 y3)) _ w3.heap.size s 13 e4 #[.int .u64 v2, .int .u32 y3, .int .u64 0, .int .u64 0, .int .i64 0, .int .u64 0, .slice none 0 0] from K1.out.set 1 _)
  clear s1 f1
  generalize w4.setCell ⟨w3.heap.size, 1, none⟩ (.int .u32 y3) = W2 at K2 ⊢
  go_upto_region 7 with (go_at_call 40; (with_reducible refine (consortref19_taker_record.calls 400 (w.heap.size + 1) s 13 e4 r0 r1 r2 r3 l s q e5 w _ K2.out.ns.st K2.out.ns.bel R1.out).mono ?_); rintro _ w5 ⟨v7, rfl, ho, hi, hb, hk⟩; obtain ⟨A7, c7, rfl⟩ := Kd.R_slice ho; have HO := Aside0.mk (Kd.R_lower ho K2.out.ns.bel.size); have K3 := Aside0.mk (K2.out.call hi hb hk); have s2 := cellAt (i := 2) K3.out.t6 rfl; have f2 := blk_frozen K3.out.t6 2; have s3 := cellAt (i := 3) K3.out.t6 rfl; have f3 := blk_frozen K3.out.t6 3; have s4 := cellAt (i := 4) K3.out.t6 rfl; have f4 := blk_frozen K3.out.t6 4; have s5 := cellAt (i := 5) K3.out.t6 rfl; have f5 := blk_frozen K3.out.t6 5; have s6 := cellAt (i := 6) K3.out.t6 rfl; have f6 := blk_frozen K3.out.t6 6; clear ho hi hb hk)
  have K4 := Aside0.mk (show NT w (((((w5.setCell ⟨w3.heap.size, 2, none⟩ (.int .u64 r0)).setCell ⟨w3.heap.size, 3, none⟩ (.int .u64 r1)).setCell ⟨w3.heap.size, 4, none⟩ (.int .i64 r2)).setCell ⟨w3.heap.size, 5, none⟩ (.int .u64 r3)).setCell ⟨w3.heap.size, 6, none⟩ (.slice A7 l.length c7)) _ w3.heap.size s q e5 #[.int .u64 v2, .int .u32 y3, .int .u64 r0, .int .u64 r1, .int .i64 r2, .int .u64 r3, .slice A7 l.length c7] from (((((K3.out.set 2 (.int .u64 r0)).set 3 (.int .u64 r1)).set 4 (.int .i64 r2)).set 5 (.int .u64 r3)).set 6 (.slice A7 l.length c7)))
  clear s2 s3 s4 s5 s6 f2 f3 f4 f5 f6
  have HO4 := Aside0.mk (show Kd.R k27 27 (((((w5.setCell ⟨w3.heap.size, 2, none⟩ (.int .u64 r0)).setCell ⟨w3.heap.size, 3, none⟩ (.int .u64 r1)).setCell ⟨w3.heap.size, 4, none⟩ (.int .i64 r2)).setCell ⟨w3.heap.size, 5, none⟩ (.int .u64 r3)).setCell ⟨w3.heap.size, 6, none⟩ (.slice A7 l.length c7)) w.heap.size (fun _ => True) (.slice A7 l.length c7) l from Kd.R_mono (Kd.R_far (p := ⟨w3.heap.size, 6, none⟩) (Kd.R_far (p := ⟨w3.heap.size, 5, none⟩) (Kd.R_far (p := ⟨w3.heap.size, 4, none⟩) (Kd.R_far (p := ⟨w3.heap.size, 3, none⟩) (Kd.R_far (p := ⟨w3.heap.size, 2, none⟩) (Kd.R_types HO.out K3.out.t6 (by decide)) (fun _ hk => hk.2) (.int .u64 r0)) (fun _ hk => hk.2) (.int .u64 r1)) (fun _ hk => hk.2) (.int .i64 r2)) (fun _ hk => hk.2) (.int .u64 r3)) (fun _ hk => hk.2) (.slice A7 l.length c7)) (ok' := fun _ => True) (fun _ _ => trivial))
  generalize (((((w5.setCell ⟨w3.heap.size, 2, none⟩ (.int .u64 r0)).setCell ⟨w3.heap.size, 3, none⟩ (.int .u64 r1)).setCell ⟨w3.heap.size, 4, none⟩ (.int .i64 r2)).setCell ⟨w3.heap.size, 5, none⟩ (.int .u64 r3)).setCell ⟨w3.heap.size, 6, none⟩ (.slice A7 l.length c7)) = W4 at K4 HO4 ⊢
  have z1 := cellAt (i := 1) K4.out.ns.st.1 rfl
  go_upto_if 39 with (go_at_call 39; (with_reducible refine (consortref19_taker_bad.calls (w.heap.size + 1) s q e5 4 (decide (q < (s.size : Int))) s q e6 w _ K4.out.ns.st K4.out.ns.bel B2.out).mono ?_); rintro _ w6 ⟨rfl, hi, hb, hk⟩; have K5 := Aside0.mk (K4.out.call hi hb hk); have z2 := cellAt (i := 2) K5.out.ns.st.1 rfl; have HO5 := Aside0.mk (Kd.R_mono (Kd.R_keep (Kd.R_types HO4.out K4.out.ns.st.1 (by decide)) hk (fun _ h => h.2)) (ok' := fun _ => True) (fun _ _ => trivial)); clear hi hb hk)
  go_wp2
  refine start_ (n := 7) (S := fun w' : World => w'.cell? ⟨w.heap.size + 1, 2, none⟩ = some (.int .i64 e6)) (ds := []) #[false, false, false, false, false, false, false] (by kernel_rfl) rfl rfl z2 (fun hHeld => ?_)
  clear z2
  have K6 := Aside0.mk (K5.out.ns.below (W1 := w6.drew) (below_drew (Below.refl _ _)))
  generalize w6.drew = wd at K6 hHeld ⊢
  refine pure_ (i := 0) (N := some 40) (v := ?_) (a' := ?_) #[true, false, false, false, false, false, false] rfl rfl (by kernel_rfl) (fun _ _ _ h => h) (Or.inl ⟨by rfl, ?_⟩) ?_ ?_
  rotate_left
  · intro w'
    go_simp
    with_reducible rfl
  rotate_left
  · simp only [Act.put, List.setIfInBounds_toArray, List.set_cons_zero, List.set_cons_succ, i64_w, i32_w]
    rfl
  refine pure_ (i := 1) (N := some 41) (v := ?_) (a' := ?_) #[true, true, false, false, false, false, false] rfl rfl (by kernel_rfl) (fun _ _ _ h => h) (Or.inl ⟨by rfl, ?_⟩) ?_ ?_
  rotate_left
  · intro w'
    go_simp
    with_reducible rfl
  rotate_left
  · simp only [Act.put, List.setIfInBounds_toArray, List.set_cons_zero, List.set_cons_succ, i64_w, i32_w]
    rfl
  refine pure_ (i := 2) (N := some 42) (v := ?_) (a' := ?_) #[true, true, true, false, false, false, false] rfl rfl (by kernel_rfl) (fun _ _ _ h => h) (Or.inl ⟨by rfl, ?_⟩) ?_ ?_
  rotate_left
  · intro w'
    go_simp
    with_reducible rfl
  rotate_left
  · simp only [Act.put, List.setIfInBounds_toArray, List.set_cons_zero, List.set_cons_succ, i64_w, i32_w]
    rfl
  refine pure_ (i := 3) (N := some 43) (v := ?_) (a' := ?_) #[true, true, true, true, false, false, false] rfl rfl (by kernel_rfl) (fun _ _ _ h => h) (Or.inl ⟨by rfl, ?_⟩) ?_ ?_
  rotate_left
  · intro w'
    go_simp
    with_reducible rfl
  rotate_left
  · simp only [Act.put, List.setIfInBounds_toArray, List.set_cons_zero, List.set_cons_succ, i64_w, i32_w]
    rfl
  refine take_ (i := 4) (N := some 44) (v := ?_) (a' := ?_) #[true, true, true, true, true, false, false] rfl rfl (by kernel_rfl) (fun _ _ _ h => h) (Or.inl ⟨by rfl, ?_⟩) hHeld ?_ ?_
  rotate_left
  · rintro w' z2
    go_simp
    with_reducible rfl
  rotate_left
  · simp only [Act.put, List.setIfInBounds_toArray, List.set_cons_zero, List.set_cons_succ, i64_w, i32_w]
    rfl
  have t0 := cellAt (i := 0) K6.out.t2 rfl
  have t1 := cellAt (i := 1) K6.out.t2 rfl
  have t2 := cellAt (i := 2) K6.out.t2 rfl
  have t3 := cellAt (i := 3) K6.out.t2 rfl
  have t4 := cellAt (i := 4) K6.out.t2 rfl
  have t5 := cellAt (i := 5) K6.out.t2 rfl
  have t6 := cellAt (i := 6) K6.out.t2 rfl
  have f0 := blk_frozen K6.out.t2 0
  have f1 := blk_frozen K6.out.t2 1
  have f2 := blk_frozen K6.out.t2 2
  have f3 := blk_frozen K6.out.t2 3
  have f4 := blk_frozen K6.out.t2 4
  have f5 := blk_frozen K6.out.t2 5
  have f6 := blk_frozen K6.out.t2 6
  refine one_ (i := 5) (N := none) #[true, true, true, true, true, true, false] rfl rfl (by kernel_rfl) (by decide) (fun K hK => ?_)
  refine skip_ (w1 := ?_) (by rfl) rfl ?_ ?_
  rotate_left
  · go_simp
    rfl
  refine hK.out _ _ (cellAt (i := 2) (blk_far (p := ⟨w.heap.size, 6, none⟩) (blk_far (p := ⟨w.heap.size, 5, none⟩) (blk_far (p := ⟨w.heap.size, 4, none⟩) (blk_far (p := ⟨w.heap.size, 3, none⟩) (blk_far (p := ⟨w.heap.size, 2, none⟩) (blk_far (p := ⟨w.heap.size, 1, none⟩) (blk_far (p := ⟨w.heap.size, 0, none⟩) K6.out.st.1 (show w.heap.size + 1 ≠ w.heap.size by omega) (.int .u64 0)) (show w.heap.size + 1 ≠ w.heap.size by omega) (.int .u32 0)) (show w.heap.size + 1 ≠ w.heap.size by omega) (.int .u64 0)) (show w.heap.size + 1 ≠ w.heap.size by omega) (.int .u64 0)) (show w.heap.size + 1 ≠ w.heap.size by omega) (.int .i64 0)) (show w.heap.size + 1 ≠ w.heap.size by omega) (.int .u64 0)) (show w.heap.size + 1 ≠ w.heap.size by omega) (.slice none 0 0)) rfl) (fun hHeld => ?_)
  clear hK K
  refine pure_ (i := 6) (N := some 3) (v := ?_) (a' := ?_) #[true, true, true, true, true, true, true] rfl rfl (by kernel_rfl) (fun _ _ _ h => h) (Or.inl ⟨by rfl, ?_⟩) ?_ ?_
  rotate_left
  · intro w'
    go_simp
    with_reducible rfl
  rotate_left
  · simp only [Act.put, List.setIfInBounds_toArray, List.set_cons_zero, List.set_cons_succ, i64_w, i32_w]
    rfl
  refine done_ (by kernel_rfl) ?_
  go_wp2
  refine bodyPost_ret (results_ct rfl rfl rfl (run_loadVar_row (P := Try.prog) _ w.heap.size 44 44 _ (0, 0) _ (blk_set (blk_set (blk_set (blk_set (blk_set (blk_set (blk_set K6.out.t2 0 (.int .u64 0)) 1 (.int .u32 0)) 2 (.int .u64 0)) 3 (.int .u64 0)) 4 (.int .i64 0)) 5 (.int .u64 0)) 6 (.slice none 0 0)) Try.underlying44 rfl (by kernel_rfl))) rfl ?_
  exact ⟨rfl, (below_set (below_set (below_set (below_set (below_set (below_set (below_set K6.out.bel (Nat.le_refl _)) (Nat.le_refl _)) (Nat.le_refl _)) (Nat.le_refl _)) (Nat.le_refl _)) (Nat.le_refl _)) (Nat.le_refl _))⟩
end Go.Proofs.Ytlkemknhmfjdpaa.P
/- The reference's Parse: its contract; it answers as log.Parse. -/
namespace Go.Proofs.Ytlkemknhmfjdpaa.P
open Go.RowKit Go.Proofs.YtlkemknhmfjdpaaW.PrintWords Go.Proofs.YtlkemknhmfjdpaaW.PrintLast Go.Proofs.YtlkemknhmfjdpaaW.PrintMore
set_option linter.unusedVariables false
set_option linter.unusedSimpArgs false

def consortref19_Parse.f (a0 : ByteArray) : Option (Int × Int × Int × Int × Int × Int × List S27 × Int) := log_Parse.f a0
theorem consortref19_Parse.calls (a0 : ByteArray) (r1 r2 r3 r4 r5 r6 : Int) (r7 : List S27) (r8 : Int) (w : World) (h : consortref19_Parse.f a0 = some (r1, r2, r3, r4, r5, r6, r7, r8)) :
    Calls Try.prog 15 #[.string a0] w fun e w' => ∃ v6_ : Value, e = .returned (.tuple #[.agg #[.int .u64 r1, .int .u32 r2, .int .u64 r3, .int .u64 r4, .int .i64 r5, .int .u64 r6, v6_], .int .i64 r8]) ∧ Kd.R k27 27 w' w.heap.size (fun _ => True) v6_ r7 ∧ Below w.heap.size w w' := by
  unfold consortref19_Parse.f log_Parse.f at h
  by_cases hs : a0.size ≤ 1000000
  rotate_left
  · rw [if_neg hs] at h
    cases h
  rw [if_pos hs] at h
  obtain ⟨v1, e1, e2, v2, e3, v3, e4, p0, p1, p2, p3, l, q, e5, e6, n1, b1, n2, n3, rc, b2, he, hg⟩ := Pure.ref_parse a0 hs
  by_cases h0 : parseE a0 = 0
  · rw [if_pos h0] at h
    simp only [Option.some.injEq, Prod.mk.injEq] at h
    obtain ⟨rfl, rfl, rfl, rfl, rfl, rfl, rfl, rfl⟩ := h
    obtain ⟨g1, g2, g3, g4⟩ := hg (he.trans h0)
    have hc := refParse_good a0 v1 e1 e2 v2 e3 v3 e4 p0 p1 p2 p3 l q e5 e6 w n1 b1 n2 n3 rc b2 (he.trans h0)
    rw [← g3, ← g1, ← g2, ← g4]
    exact hc
  · rw [if_neg h0] at h
    simp only [Option.some.injEq, Prod.mk.injEq] at h
    obtain ⟨rfl, rfl, rfl, rfl, rfl, rfl, rfl, rfl⟩ := h
    have hc := refParse_bad a0 v1 e1 e2 v2 e3 v3 e4 p0 p1 p2 p3 l q e5 e6 w n1 b1 n2 n3 rc b2 (by rw [he]; exact h0)
    rw [← he]
    exact hc.mono fun e w' hh => ⟨_, hh.1, Kd.R_nil _ _ _ _ _, hh.2⟩
end Go.Proofs.Ytlkemknhmfjdpaa.P
