import Derived.Test.YtlkemknhmfjdpaaHandN
import Derived.RegionCalls
import Derived.Deep.RegionWith
/- The reference's ParseItem, by hand: its walks. -/
namespace Go.Proofs.Ytlkemknhmfjdpaa.P
open Go.RowKit Go.Proofs.YtlkemknhmfjdpaaW.PrintWords Go.Proofs.YtlkemknhmfjdpaaW.PrintLast Go.Proofs.YtlkemknhmfjdpaaW.PrintMore
attribute [local go_sem] max2_int min2_int max_two min_two max_three min_three max_four min_four
set_option linter.unusedVariables false
set_option linter.unusedSimpArgs false

/-- What lies in the reference's blocks: the result at w's end, the taker at g. -/
structure QS (w W : World) (g : Nat) (s : ByteArray) (p e : Int) : Prop where
  st : IsS85 w W g s p e
  bel : Below w.heap.size w W
  gg : w.heap.size < g
  t2 : W.heap[w.heap.size]? = some (.cells #[.int .i64 0, .string ⟨#[]⟩, .int .u32 0, .int .u64 0, .bool false, .bool false, .int .u64 0, .int .u64 0, .int .i64 0, .int .u64 0, .slice none 0 0, .int .u64 0, .int .u64 0, .int .i64 0, .int .u64 0, .int .u64 0, .int .i64 0, .int .i64 0] 56 (0, 0))
theorem QS.start (w : World) (s : ByteArray) : QS w ((w.alloc (.cells #[.int .i64 0, .string ⟨#[]⟩, .int .u32 0, .int .u64 0, .bool false, .bool false, .int .u64 0, .int .u64 0, .int .i64 0, .int .u64 0, .slice none 0 0, .int .u64 0, .int .u64 0, .int .i64 0, .int .u64 0, .int .u64 0, .int .i64 0, .int .i64 0] 56)).alloc (.cells #[.string s, .int .i64 0, .int .i64 0] 85)) (w.heap.size + 1) s 0 0 :=
  ⟨⟨alloc2_new w _ _, by omega⟩, below_alloc (below_alloc (Below.refl _ _) _) _, by omega, heap_old1 (heap_alloc_new w _) _⟩
theorem QS.call {w W W1 : World} {g : Nat} {s : ByteArray} {p e p1 e1 : Int} (h : QS w W g s p e) (hi : IsS85 w W1 g s p1 e1) (hb : Below w.heap.size w W1) (hk : KeepBut W W1 g none) : QS w W1 g s p1 e1 :=
  ⟨hi, hb, h.gg, hk.blk h.t2 (by have := h.gg; omega) (by simp)⟩
theorem QS.below {w W W1 : World} {g : Nat} {s : ByteArray} {p e : Int} (h : QS w W g s p e) (hb : Below W.heap.size W W1) : QS w W1 g s p e :=
  h.call ⟨bk0 h.st.1 hb, h.st.2⟩ (below_step h.bel hb) (KeepBut.of_below hb g none)
/-- With the value that grows, at b6. -/
structure QT (w W : World) (g b6 : Nat) (s : ByteArray) (p e : Int) (cs : Array Value) : Prop where
  ns : QS w W g s p e
  g6 : g < b6
  t6 : W.heap[b6]? = some (.cells cs 56 (0, 0))
theorem QT.start {w W : World} {g : Nat} {s : ByteArray} {p e : Int} (h : QS w W g s p e) (cs : Array Value) : QT w (W.alloc (.cells cs 56)) g W.heap.size s p e cs :=
  ⟨h.below (below_alloc (Below.refl _ _) _), blk_lt h.st.1, heap_alloc_new W _⟩
theorem QT.call {w W W1 : World} {g b6 : Nat} {s : ByteArray} {p e p1 e1 : Int} {cs : Array Value} (h : QT w W g b6 s p e cs) (hi : IsS85 w W1 g s p1 e1) (hb : Below w.heap.size w W1) (hk : KeepBut W W1 g none) : QT w W1 g b6 s p1 e1 cs :=
  ⟨h.ns.call hi hb hk, h.g6, hk.blk h.t6 (by have := h.g6; omega) (by simp)⟩
theorem QT.set {w W : World} {g b6 : Nat} {s : ByteArray} {p e : Int} {cs : Array Value} (h : QT w W g b6 s p e cs) (i : Nat) (u : Value) : QT w (W.setCell ⟨b6, i, none⟩ u) g b6 s p e (cs.setIfInBounds i u) :=
  ⟨⟨⟨blk_far h.ns.st.1 (show g ≠ b6 by have := h.g6; omega) u, h.ns.st.2⟩, below_set h.ns.bel (by have := h.g6; have := h.ns.gg; omega), h.ns.gg, blk_far h.ns.t2 (show w.heap.size ≠ b6 by have := h.g6; have := h.ns.gg; omega) u⟩, h.g6, blk_set h.t6 i u⟩
theorem QT.at_ {w W : World} {g b6 : Nat} {s : ByteArray} {p e : Int} {cs : Array Value} (h : QT w W g b6 s p e cs) (p1 : Int) : QT w (W.setCell ⟨g, 1, none⟩ (.int .i64 p1)) g b6 s p1 e cs :=
  ⟨⟨⟨blk_set h.ns.st.1 1 (.int .i64 p1), h.ns.st.2⟩, below_set h.ns.bel (Nat.le_of_lt h.ns.gg), h.ns.gg, blk_far h.ns.t2 (show w.heap.size ≠ g by have := h.ns.gg; omega) _⟩, h.g6, blk_far h.t6 (show b6 ≠ g by have := h.g6; omega) _⟩
theorem QT.res {w W w7 : World} {g b6 : Nat} {s : ByteArray} {p e : Int} {cs cs2 : Array Value} (h : QT w W g b6 s p e cs) (h7 : Put1 W w7 w.heap.size cs2 56) : IsS85 w w7 g s p e ∧ w7.heap[w.heap.size]? = some (.cells cs2 56 (0, 0)) ∧ Below w.heap.size w w7 :=
  ⟨⟨(h7.far g (by have := h.ns.gg; omega)).trans h.ns.st.1, h.ns.st.2⟩, h7.at_, h7.bel w h.ns.bel (Nat.le_refl _)⟩
theorem QT.below {w W W1 : World} {g b6 : Nat} {s : ByteArray} {p e : Int} {cs : Array Value} (h : QT w W g b6 s p e cs) (hb : Below W.heap.size W W1) : QT w W1 g b6 s p e cs :=
  ⟨h.ns.below hb, h.g6, (hb.block _ (blk_lt h.t6)).trans h.t6⟩
theorem load56 {W : World} {b : Nat} {v0 v1 v2 v3 v4 v5 v6 v7 v8 v9 v10 v11 v12 v13 v14 v15 v16 v17 : Value} (h : W.heap[b]? = some (.cells #[v0, v1, v2, v3, v4, v5, v6, v7, v8, v9, v10, v11, v12, v13, v14, v15, v16, v17] 56 (0, 0))) :
    (Instr.loadAt 56 (.pointer (some ⟨b, 0, none⟩))).run Try.prog W = .ok (.agg #[v0, v1, v2, v3, v4, v5, v6, v7, v8, v9, v10, v11, v12, v13, v14, v15, v16, v17]) W := by
  refine load_agg [v0, v1, v2, v3, v4, v5, v6, v7, v8, v9, v10, v11, v12, v13, v14, v15, v16, v17] (by kernel_rfl) (by kernel_rfl) (fun j u hj => ?_)
  rw [add_plain]
  refine cellAt h ?_
  simpa using hj
/-- The store of a whole block, in a region that draws. -/
theorem storeRow_ {P : Program} {ops : Array Oper} {o : Oper} {a : Act} {K : Act → World → Prop} {Q : Exit → Act → World → Prop} {E : Prop} {W : World} (hgd : o.guard = none) {ty : TypeId} {p : Tmp} {y : Operand} (ho : o.op = .store ty (.tmp p) y) (hN : o.dst = none)
    (g : Nat) (cells : Array Value) (hx : a.eval (.tmp p) = .pointer (some ⟨g, 0, none⟩)) (hy : a.eval y = .agg cells) (t : TypeId) (old : Array Value) (hg : W.heap[g]? = some (.cells old t (0, 0))) (hi : (P.info? ty).map (·.size) = some cells.size)
    (hold : old.size = cells.size) (h1 : cells.all (·.oneCell') = true) (h : ∀ w', Put1 W w' g cells t → K a w') : if Region.wanted o (yielded ops a.tmps) = true then Oper.wp P o a W K Q else E := by
  have hw : Region.wanted o (yielded ops a.tmps) = true := by simp [Region.wanted, hgd]
  rw [if_pos hw]
  refine wp_store_row ty (.tmp p) y ho g cells hx hy t old hg hi hold h1 ?_
  rw [hN]
  exact h _ (put1_row hg)
set_option maxHeartbeats 8000000 in
set_option maxRecDepth 100000 in
theorem ro_lo (s : ByteArray) (v1 e1 e2 e3 e9 y0 : Int) (w : World) (hyr : IntKind.i64.wrap v1 = y0) (n1 : consortref19_taker_num.f 400 s 0 0 1 = some (v1, s, 1, e1)) (b2 : consortref19_taker_bad.f s 1 e1 10 true = some (s, 1, e2)) (b3 : consortref19_taker_bad.f s 1 e2 3 (decide (1024 < (s.size : Int))) = some (s, 1, e3)) (b4 : consortref19_taker_bad.f s 1 e3 4 (decide (1 < (s.size : Int))) = some (s, 1, e9)) (hlo : y0 < 1) (h9 : e9 ≠ 0) (h20 : e3 ≠ 0) :
    Calls Try.prog 16 #[.string s] w fun e w' => e = .returned (.tuple #[.agg #[.int .i64 0, .string ⟨#[]⟩, .int .u32 0, .int .u64 0, .bool false, .bool false, .int .u64 0, .int .u64 0, .int .i64 0, .int .u64 0, .slice none 0 0, .int .u64 0, .int .u64 0, .int .i64 0, .int .u64 0, .int .u64 0, .int .i64 0, .int .i64 0], .int .i64 e9]) ∧ Below w.heap.size w w' := by
  have q0 : decide (y0 < 1) = true := decide_eq_true hlo
  have q1 : (y0 == 1) = false := beq_eq_false_iff_ne.mpr (by omega)
  have q2 : (y0 == 2) = false := beq_eq_false_iff_ne.mpr (by omega)
  have q3 : (y0 == 3) = false := beq_eq_false_iff_ne.mpr (by omega)
  have q4 : (y0 == 4) = false := beq_eq_false_iff_ne.mpr (by omega)
  clear hlo
  have q9 : (e9 != 0) = true := bne_iff_ne.mpr h9
  clear h9
  have q20 : (e3 == 0) = false := beq_eq_false_iff_ne.mpr h20
  clear h20
  have N1 := Aside0.mk n1
  have B2 := Aside0.mk b2
  have B3 := Aside0.mk b3
  have B4 := Aside0.mk b4
  have H0 := Aside0.mk (QS.start w s)
  clear n1 b2 b3 b4
  go_enter Try.func16, Try.ntmps16
  go_upto_region 3 with (first | (go_at_call 38; (with_reducible refine (consortref19_taker_num.calls 400 (w.heap.size + 1) s 0 0 1 v1 s 1 e1 w _ H0.out.st H0.out.bel N1.out).mono ?_); rintro _ w1 ⟨rfl, hi, hb, hk⟩; have K1 := Aside0.mk (H0.out.call hi hb hk); clear hi hb hk))
  have K2 := Aside0.mk (QT.start K1.out #[.int .i64 y0, .string ⟨#[]⟩, .int .u32 0, .int .u64 0, .bool false, .bool false, .int .u64 0, .int .u64 0, .int .i64 0, .int .u64 0, .slice none 0 0, .int .u64 0, .int .u64 0, .int .i64 0, .int .u64 0, .int .u64 0, .int .i64 0, .int .i64 0])
  generalize w1.alloc (.cells #[.int .i64 y0, .string ⟨#[]⟩, .int .u32 0, .int .u64 0, .bool false, .bool false, .int .u64 0, .int .u64 0, .int .i64 0, .int .u64 0, .slice none 0 0, .int .u64 0, .int .u64 0, .int .i64 0, .int .u64 0, .int .u64 0, .int .i64 0, .int .i64 0] 56) = W0 at K2 ⊢
  have k0 := cellAt (i := 0) K2.out.t6 rfl
  go_upto_region 20 with (first | (go_at_call 39; (with_reducible refine (consortref19_taker_bad.calls (w.heap.size + 1) s 1 e1 10 true s 1 e2 w _ K2.out.ns.st K2.out.ns.bel B2.out).mono ?_); rintro _ w2 ⟨rfl, hi, hb, hk⟩; have K3 := Aside0.mk (K2.out.call hi hb hk); clear k0; have k0 := cellAt (i := 0) K3.out.t6 rfl; clear hi hb hk) | (go_at_call 39; (with_reducible refine (consortref19_taker_bad.calls (w.heap.size + 1) s 1 e2 3 (decide (1024 < (s.size : Int))) s 1 e3 w _ K3.out.ns.st K3.out.ns.bel B3.out).mono ?_); rintro _ w3 ⟨rfl, hi, hb, hk⟩; have K4 := Aside0.mk (K3.out.call hi hb hk); clear k0; have k0 := cellAt (i := 0) K4.out.t6 rfl; clear hi hb hk))
  have z2 := cellAt (i := 2) K4.out.ns.st.1 rfl
  go_upto_region 23 with fail
  clear z2 k0
  have z1 := cellAt (i := 1) K4.out.ns.st.1 rfl
  go_upto_if 115 with (first | (go_at_call 39; (with_reducible refine (consortref19_taker_bad.calls (w.heap.size + 1) s 1 e3 4 (decide (1 < (s.size : Int))) s 1 e9 w _ K4.out.ns.st K4.out.ns.bel B4.out).mono ?_); rintro _ w4 ⟨rfl, hi, hb, hk⟩; have K5 := Aside0.mk (K4.out.call hi hb hk); have z2 := cellAt (i := 2) K5.out.ns.st.1 rfl; clear hi hb hk))
  go_wp2
  refine start_ (n := 7) (S := fun w' : World => w'.cell? ⟨w.heap.size + 1, 2, none⟩ = some (.int .i64 e9)) (ds := []) #[false, false, false, false, false, false, false] (by kernel_rfl) rfl rfl z2 (fun hHeld => ?_)
  clear z2
  have KD := Aside0.mk (K5.out.below (W1 := w4.drew) (below_drew (Below.refl _ _)))
  generalize w4.drew = wd at KD hHeld ⊢
  refine pure_ (i := 0) (N := some 116) (v := ?_) (a' := ?_) #[true, false, false, false, false, false, false] rfl rfl (by kernel_rfl) (fun _ _ _ h => h) (Or.inl ⟨by rfl, ?_⟩) ?_ ?_
  rotate_left
  · intro w'
    go_simp
    with_reducible rfl
  rotate_left
  · simp only [Act.put, List.setIfInBounds_toArray, List.set_cons_zero, List.set_cons_succ, i64_w, i32_w]
    rfl
  refine pure_ (i := 1) (N := some 117) (v := ?_) (a' := ?_) #[true, true, false, false, false, false, false] rfl rfl (by kernel_rfl) (fun _ _ _ h => h) (Or.inl ⟨by rfl, ?_⟩) ?_ ?_
  rotate_left
  · intro w'
    go_simp
    with_reducible rfl
  rotate_left
  · simp only [Act.put, List.setIfInBounds_toArray, List.set_cons_zero, List.set_cons_succ, i64_w, i32_w]
    rfl
  refine pure_ (i := 2) (N := some 118) (v := ?_) (a' := ?_) #[true, true, true, false, false, false, false] rfl rfl (by kernel_rfl) (fun _ _ _ h => h) (Or.inl ⟨by rfl, ?_⟩) ?_ ?_
  rotate_left
  · intro w'
    go_simp
    with_reducible rfl
  rotate_left
  · simp only [Act.put, List.setIfInBounds_toArray, List.set_cons_zero, List.set_cons_succ, i64_w, i32_w]
    rfl
  refine pure_ (i := 3) (N := some 119) (v := ?_) (a' := ?_) #[true, true, true, true, false, false, false] rfl rfl (by kernel_rfl) (fun _ _ _ h => h) (Or.inl ⟨by rfl, ?_⟩) ?_ ?_
  rotate_left
  · intro w'
    go_simp
    with_reducible rfl
  rotate_left
  · simp only [Act.put, List.setIfInBounds_toArray, List.set_cons_zero, List.set_cons_succ, i64_w, i32_w]
    rfl
  refine take_ (i := 4) (N := some 120) (v := ?_) (a' := ?_) #[true, true, true, true, true, false, false] rfl rfl (by kernel_rfl) (fun _ _ _ h => h) (Or.inl ⟨by rfl, ?_⟩) hHeld ?_ ?_
  rotate_left
  · rintro w' z2
    go_simp
    with_reducible rfl
  rotate_left
  · simp only [Act.put, List.setIfInBounds_toArray, List.set_cons_zero, List.set_cons_succ, i64_w, i32_w]
    rfl
  refine one_ (i := 5) (N := none) #[true, true, true, true, true, true, false] rfl rfl (by kernel_rfl) (by decide) (fun K hK => ?_)
  refine storeRow_ rfl (ty := 56) (p := 2) rfl rfl w.heap.size #[.int .i64 0, .string ⟨#[]⟩, .int .u32 0, .int .u64 0, .bool false, .bool false, .int .u64 0, .int .u64 0, .int .i64 0, .int .u64 0, .slice none 0 0, .int .u64 0, .int .u64 0, .int .i64 0, .int .u64 0, .int .u64 0, .int .i64 0, .int .i64 0] rfl rfl 56 #[.int .i64 0, .string ⟨#[]⟩, .int .u32 0, .int .u64 0, .bool false, .bool false, .int .u64 0, .int .u64 0, .int .i64 0, .int .u64 0, .slice none 0 0, .int .u64 0, .int .u64 0, .int .i64 0, .int .u64 0, .int .u64 0, .int .i64 0, .int .i64 0] KD.out.ns.t2 (by kernel_rfl) rfl (by simp [Value.oneCell']) ?_
  intro w7 h7
  have P7 := Aside0.mk (KD.out.res h7)
  refine hK.out _ _ (cellAt (i := 2) P7.out.1.1 rfl) (fun hHeld => ?_)
  clear hK K h7
  refine pure_ (i := 6) (N := some 3) (v := ?_) (a' := ?_) #[true, true, true, true, true, true, true] rfl rfl (by kernel_rfl) (fun _ _ _ h => h) (Or.inl ⟨by rfl, ?_⟩) ?_ ?_
  rotate_left
  · intro w'
    go_simp
    with_reducible rfl
  rotate_left
  · simp only [Act.put, List.setIfInBounds_toArray, List.set_cons_zero, List.set_cons_succ, i64_w, i32_w]
    rfl
  refine done_ (by kernel_rfl) ?_
  go_wp2
  refine bodyPost_ret (results_ct rfl rfl rfl (run_loadVar_row (P := Try.prog) _ w.heap.size 56 56 _ (0, 0) _ P7.out.2.1 Try.underlying56 rfl (by kernel_rfl))) rfl ?_
  exact ⟨rfl, P7.out.2.2⟩
set_option maxHeartbeats 8000000 in
set_option maxRecDepth 100000 in
theorem ro_hi (s : ByteArray) (v1 e1 e2 e3 e9 y0 : Int) (w : World) (hyr : IntKind.i64.wrap v1 = y0) (n1 : consortref19_taker_num.f 400 s 0 0 1 = some (v1, s, 1, e1)) (b2 : consortref19_taker_bad.f s 1 e1 10 (decide (4 < y0)) = some (s, 1, e2)) (b3 : consortref19_taker_bad.f s 1 e2 3 (decide (1024 < (s.size : Int))) = some (s, 1, e3)) (b4 : consortref19_taker_bad.f s 1 e3 4 (decide (1 < (s.size : Int))) = some (s, 1, e9)) (hlo : 4 < y0) (h9 : e9 ≠ 0) (h20 : e3 ≠ 0) :
    Calls Try.prog 16 #[.string s] w fun e w' => e = .returned (.tuple #[.agg #[.int .i64 0, .string ⟨#[]⟩, .int .u32 0, .int .u64 0, .bool false, .bool false, .int .u64 0, .int .u64 0, .int .i64 0, .int .u64 0, .slice none 0 0, .int .u64 0, .int .u64 0, .int .i64 0, .int .u64 0, .int .u64 0, .int .i64 0, .int .i64 0], .int .i64 e9]) ∧ Below w.heap.size w w' := by
  have q0 : decide (y0 < 1) = false := decide_eq_false (by omega)
  have q1 : (y0 == 1) = false := beq_eq_false_iff_ne.mpr (by omega)
  have q2 : (y0 == 2) = false := beq_eq_false_iff_ne.mpr (by omega)
  have q3 : (y0 == 3) = false := beq_eq_false_iff_ne.mpr (by omega)
  have q4 : (y0 == 4) = false := beq_eq_false_iff_ne.mpr (by omega)
  clear hlo
  have q9 : (e9 != 0) = true := bne_iff_ne.mpr h9
  clear h9
  have q20 : (e3 == 0) = false := beq_eq_false_iff_ne.mpr h20
  clear h20
  have N1 := Aside0.mk n1
  have B2 := Aside0.mk b2
  have B3 := Aside0.mk b3
  have B4 := Aside0.mk b4
  have H0 := Aside0.mk (QS.start w s)
  clear n1 b2 b3 b4
  go_enter Try.func16, Try.ntmps16
  go_upto_region 3 with (first | (go_at_call 38; (with_reducible refine (consortref19_taker_num.calls 400 (w.heap.size + 1) s 0 0 1 v1 s 1 e1 w _ H0.out.st H0.out.bel N1.out).mono ?_); rintro _ w1 ⟨rfl, hi, hb, hk⟩; have K1 := Aside0.mk (H0.out.call hi hb hk); clear hi hb hk))
  have K2 := Aside0.mk (QT.start K1.out #[.int .i64 y0, .string ⟨#[]⟩, .int .u32 0, .int .u64 0, .bool false, .bool false, .int .u64 0, .int .u64 0, .int .i64 0, .int .u64 0, .slice none 0 0, .int .u64 0, .int .u64 0, .int .i64 0, .int .u64 0, .int .u64 0, .int .i64 0, .int .i64 0])
  generalize w1.alloc (.cells #[.int .i64 y0, .string ⟨#[]⟩, .int .u32 0, .int .u64 0, .bool false, .bool false, .int .u64 0, .int .u64 0, .int .i64 0, .int .u64 0, .slice none 0 0, .int .u64 0, .int .u64 0, .int .i64 0, .int .u64 0, .int .u64 0, .int .i64 0, .int .i64 0] 56) = W0 at K2 ⊢
  have k0 := cellAt (i := 0) K2.out.t6 rfl
  go_upto_region 20 with (first | (go_at_call 39; (with_reducible refine (consortref19_taker_bad.calls (w.heap.size + 1) s 1 e1 10 (decide (4 < y0)) s 1 e2 w _ K2.out.ns.st K2.out.ns.bel B2.out).mono ?_); rintro _ w2 ⟨rfl, hi, hb, hk⟩; have K3 := Aside0.mk (K2.out.call hi hb hk); clear k0; have k0 := cellAt (i := 0) K3.out.t6 rfl; clear hi hb hk) | (go_at_call 39; (with_reducible refine (consortref19_taker_bad.calls (w.heap.size + 1) s 1 e2 3 (decide (1024 < (s.size : Int))) s 1 e3 w _ K3.out.ns.st K3.out.ns.bel B3.out).mono ?_); rintro _ w3 ⟨rfl, hi, hb, hk⟩; have K4 := Aside0.mk (K3.out.call hi hb hk); clear k0; have k0 := cellAt (i := 0) K4.out.t6 rfl; clear hi hb hk))
  have z2 := cellAt (i := 2) K4.out.ns.st.1 rfl
  go_upto_region 23 with fail
  clear z2 k0
  have z1 := cellAt (i := 1) K4.out.ns.st.1 rfl
  go_upto_if 115 with (first | (go_at_call 39; (with_reducible refine (consortref19_taker_bad.calls (w.heap.size + 1) s 1 e3 4 (decide (1 < (s.size : Int))) s 1 e9 w _ K4.out.ns.st K4.out.ns.bel B4.out).mono ?_); rintro _ w4 ⟨rfl, hi, hb, hk⟩; have K5 := Aside0.mk (K4.out.call hi hb hk); have z2 := cellAt (i := 2) K5.out.ns.st.1 rfl; clear hi hb hk))
  go_wp2
  refine start_ (n := 7) (S := fun w' : World => w'.cell? ⟨w.heap.size + 1, 2, none⟩ = some (.int .i64 e9)) (ds := []) #[false, false, false, false, false, false, false] (by kernel_rfl) rfl rfl z2 (fun hHeld => ?_)
  clear z2
  have KD := Aside0.mk (K5.out.below (W1 := w4.drew) (below_drew (Below.refl _ _)))
  generalize w4.drew = wd at KD hHeld ⊢
  refine pure_ (i := 0) (N := some 116) (v := ?_) (a' := ?_) #[true, false, false, false, false, false, false] rfl rfl (by kernel_rfl) (fun _ _ _ h => h) (Or.inl ⟨by rfl, ?_⟩) ?_ ?_
  rotate_left
  · intro w'
    go_simp
    with_reducible rfl
  rotate_left
  · simp only [Act.put, List.setIfInBounds_toArray, List.set_cons_zero, List.set_cons_succ, i64_w, i32_w]
    rfl
  refine pure_ (i := 1) (N := some 117) (v := ?_) (a' := ?_) #[true, true, false, false, false, false, false] rfl rfl (by kernel_rfl) (fun _ _ _ h => h) (Or.inl ⟨by rfl, ?_⟩) ?_ ?_
  rotate_left
  · intro w'
    go_simp
    with_reducible rfl
  rotate_left
  · simp only [Act.put, List.setIfInBounds_toArray, List.set_cons_zero, List.set_cons_succ, i64_w, i32_w]
    rfl
  refine pure_ (i := 2) (N := some 118) (v := ?_) (a' := ?_) #[true, true, true, false, false, false, false] rfl rfl (by kernel_rfl) (fun _ _ _ h => h) (Or.inl ⟨by rfl, ?_⟩) ?_ ?_
  rotate_left
  · intro w'
    go_simp
    with_reducible rfl
  rotate_left
  · simp only [Act.put, List.setIfInBounds_toArray, List.set_cons_zero, List.set_cons_succ, i64_w, i32_w]
    rfl
  refine pure_ (i := 3) (N := some 119) (v := ?_) (a' := ?_) #[true, true, true, true, false, false, false] rfl rfl (by kernel_rfl) (fun _ _ _ h => h) (Or.inl ⟨by rfl, ?_⟩) ?_ ?_
  rotate_left
  · intro w'
    go_simp
    with_reducible rfl
  rotate_left
  · simp only [Act.put, List.setIfInBounds_toArray, List.set_cons_zero, List.set_cons_succ, i64_w, i32_w]
    rfl
  refine take_ (i := 4) (N := some 120) (v := ?_) (a' := ?_) #[true, true, true, true, true, false, false] rfl rfl (by kernel_rfl) (fun _ _ _ h => h) (Or.inl ⟨by rfl, ?_⟩) hHeld ?_ ?_
  rotate_left
  · rintro w' z2
    go_simp
    with_reducible rfl
  rotate_left
  · simp only [Act.put, List.setIfInBounds_toArray, List.set_cons_zero, List.set_cons_succ, i64_w, i32_w]
    rfl
  refine one_ (i := 5) (N := none) #[true, true, true, true, true, true, false] rfl rfl (by kernel_rfl) (by decide) (fun K hK => ?_)
  refine storeRow_ rfl (ty := 56) (p := 2) rfl rfl w.heap.size #[.int .i64 0, .string ⟨#[]⟩, .int .u32 0, .int .u64 0, .bool false, .bool false, .int .u64 0, .int .u64 0, .int .i64 0, .int .u64 0, .slice none 0 0, .int .u64 0, .int .u64 0, .int .i64 0, .int .u64 0, .int .u64 0, .int .i64 0, .int .i64 0] rfl rfl 56 #[.int .i64 0, .string ⟨#[]⟩, .int .u32 0, .int .u64 0, .bool false, .bool false, .int .u64 0, .int .u64 0, .int .i64 0, .int .u64 0, .slice none 0 0, .int .u64 0, .int .u64 0, .int .i64 0, .int .u64 0, .int .u64 0, .int .i64 0, .int .i64 0] KD.out.ns.t2 (by kernel_rfl) rfl (by simp [Value.oneCell']) ?_
  intro w7 h7
  have P7 := Aside0.mk (KD.out.res h7)
  refine hK.out _ _ (cellAt (i := 2) P7.out.1.1 rfl) (fun hHeld => ?_)
  clear hK K h7
  refine pure_ (i := 6) (N := some 3) (v := ?_) (a' := ?_) #[true, true, true, true, true, true, true] rfl rfl (by kernel_rfl) (fun _ _ _ h => h) (Or.inl ⟨by rfl, ?_⟩) ?_ ?_
  rotate_left
  · intro w'
    go_simp
    with_reducible rfl
  rotate_left
  · simp only [Act.put, List.setIfInBounds_toArray, List.set_cons_zero, List.set_cons_succ, i64_w, i32_w]
    rfl
  refine done_ (by kernel_rfl) ?_
  go_wp2
  refine bodyPost_ret (results_ct rfl rfl rfl (run_loadVar_row (P := Try.prog) _ w.heap.size 56 56 _ (0, 0) _ P7.out.2.1 Try.underlying56 rfl (by kernel_rfl))) rfl ?_
  exact ⟨rfl, P7.out.2.2⟩
set_option maxHeartbeats 8000000 in
set_option maxRecDepth 100000 in
theorem ro1_bad (s : ByteArray) (v1 e1 e2 e3 e9 : Int) (w : World) (hyr : IntKind.i64.wrap v1 = 1) (n1 : consortref19_taker_num.f 400 s 0 0 1 = some (v1, s, 1, e1)) (b2 : consortref19_taker_bad.f s 1 e1 10 false = some (s, 1, e2)) (b3 : consortref19_taker_bad.f s 1 e2 3 (decide (1024 < (s.size : Int))) = some (s, 1, e3)) (b4 : consortref19_taker_bad.f s 1 e3 4 (decide (1 < (s.size : Int))) = some (s, 1, e9)) (h9 : e9 ≠ 0) (h20 : e3 ≠ 0) :
    Calls Try.prog 16 #[.string s] w fun e w' => e = .returned (.tuple #[.agg #[.int .i64 0, .string ⟨#[]⟩, .int .u32 0, .int .u64 0, .bool false, .bool false, .int .u64 0, .int .u64 0, .int .i64 0, .int .u64 0, .slice none 0 0, .int .u64 0, .int .u64 0, .int .i64 0, .int .u64 0, .int .u64 0, .int .i64 0, .int .i64 0], .int .i64 e9]) ∧ Below w.heap.size w w' := by
  have q9 : (e9 != 0) = true := bne_iff_ne.mpr h9
  clear h9
  have q20 : (e3 == 0) = false := beq_eq_false_iff_ne.mpr h20
  clear h20
  have N1 := Aside0.mk n1
  have B2 := Aside0.mk b2
  have B3 := Aside0.mk b3
  have B4 := Aside0.mk b4
  have H0 := Aside0.mk (QS.start w s)
  clear n1 b2 b3 b4
  go_enter Try.func16, Try.ntmps16
  go_upto_region 3 with (first | (go_at_call 38; (with_reducible refine (consortref19_taker_num.calls 400 (w.heap.size + 1) s 0 0 1 v1 s 1 e1 w _ H0.out.st H0.out.bel N1.out).mono ?_); rintro _ w1 ⟨rfl, hi, hb, hk⟩; have K1 := Aside0.mk (H0.out.call hi hb hk); clear hi hb hk))
  have K2 := Aside0.mk (QT.start K1.out #[.int .i64 1, .string ⟨#[]⟩, .int .u32 0, .int .u64 0, .bool false, .bool false, .int .u64 0, .int .u64 0, .int .i64 0, .int .u64 0, .slice none 0 0, .int .u64 0, .int .u64 0, .int .i64 0, .int .u64 0, .int .u64 0, .int .i64 0, .int .i64 0])
  generalize w1.alloc (.cells #[.int .i64 1, .string ⟨#[]⟩, .int .u32 0, .int .u64 0, .bool false, .bool false, .int .u64 0, .int .u64 0, .int .i64 0, .int .u64 0, .slice none 0 0, .int .u64 0, .int .u64 0, .int .i64 0, .int .u64 0, .int .u64 0, .int .i64 0, .int .i64 0] 56) = W0 at K2 ⊢
  have k0 := cellAt (i := 0) K2.out.t6 rfl
  go_upto_region 20 with (first | (go_at_call 39; (with_reducible refine (consortref19_taker_bad.calls (w.heap.size + 1) s 1 e1 10 false s 1 e2 w _ K2.out.ns.st K2.out.ns.bel B2.out).mono ?_); rintro _ w2 ⟨rfl, hi, hb, hk⟩; have K3 := Aside0.mk (K2.out.call hi hb hk); clear k0; have k0 := cellAt (i := 0) K3.out.t6 rfl; clear hi hb hk) | (go_at_call 39; (with_reducible refine (consortref19_taker_bad.calls (w.heap.size + 1) s 1 e2 3 (decide (1024 < (s.size : Int))) s 1 e3 w _ K3.out.ns.st K3.out.ns.bel B3.out).mono ?_); rintro _ w3 ⟨rfl, hi, hb, hk⟩; have K4 := Aside0.mk (K3.out.call hi hb hk); clear k0; have k0 := cellAt (i := 0) K4.out.t6 rfl; clear hi hb hk))
  have z2 := cellAt (i := 2) K4.out.ns.st.1 rfl
  go_upto_region 23 with fail
  clear z2 k0
  have z1 := cellAt (i := 1) K4.out.ns.st.1 rfl
  go_upto_if 115 with (first | (go_at_call 39; (with_reducible refine (consortref19_taker_bad.calls (w.heap.size + 1) s 1 e3 4 (decide (1 < (s.size : Int))) s 1 e9 w _ K4.out.ns.st K4.out.ns.bel B4.out).mono ?_); rintro _ w4 ⟨rfl, hi, hb, hk⟩; have K5 := Aside0.mk (K4.out.call hi hb hk); have z2 := cellAt (i := 2) K5.out.ns.st.1 rfl; clear hi hb hk))
  go_wp2
  refine start_ (n := 7) (S := fun w' : World => w'.cell? ⟨w.heap.size + 1, 2, none⟩ = some (.int .i64 e9)) (ds := []) #[false, false, false, false, false, false, false] (by kernel_rfl) rfl rfl z2 (fun hHeld => ?_)
  clear z2
  have KD := Aside0.mk (K5.out.below (W1 := w4.drew) (below_drew (Below.refl _ _)))
  generalize w4.drew = wd at KD hHeld ⊢
  refine pure_ (i := 0) (N := some 116) (v := ?_) (a' := ?_) #[true, false, false, false, false, false, false] rfl rfl (by kernel_rfl) (fun _ _ _ h => h) (Or.inl ⟨by rfl, ?_⟩) ?_ ?_
  rotate_left
  · intro w'
    go_simp
    with_reducible rfl
  rotate_left
  · simp only [Act.put, List.setIfInBounds_toArray, List.set_cons_zero, List.set_cons_succ, i64_w, i32_w]
    rfl
  refine pure_ (i := 1) (N := some 117) (v := ?_) (a' := ?_) #[true, true, false, false, false, false, false] rfl rfl (by kernel_rfl) (fun _ _ _ h => h) (Or.inl ⟨by rfl, ?_⟩) ?_ ?_
  rotate_left
  · intro w'
    go_simp
    with_reducible rfl
  rotate_left
  · simp only [Act.put, List.setIfInBounds_toArray, List.set_cons_zero, List.set_cons_succ, i64_w, i32_w]
    rfl
  refine pure_ (i := 2) (N := some 118) (v := ?_) (a' := ?_) #[true, true, true, false, false, false, false] rfl rfl (by kernel_rfl) (fun _ _ _ h => h) (Or.inl ⟨by rfl, ?_⟩) ?_ ?_
  rotate_left
  · intro w'
    go_simp
    with_reducible rfl
  rotate_left
  · simp only [Act.put, List.setIfInBounds_toArray, List.set_cons_zero, List.set_cons_succ, i64_w, i32_w]
    rfl
  refine pure_ (i := 3) (N := some 119) (v := ?_) (a' := ?_) #[true, true, true, true, false, false, false] rfl rfl (by kernel_rfl) (fun _ _ _ h => h) (Or.inl ⟨by rfl, ?_⟩) ?_ ?_
  rotate_left
  · intro w'
    go_simp
    with_reducible rfl
  rotate_left
  · simp only [Act.put, List.setIfInBounds_toArray, List.set_cons_zero, List.set_cons_succ, i64_w, i32_w]
    rfl
  refine take_ (i := 4) (N := some 120) (v := ?_) (a' := ?_) #[true, true, true, true, true, false, false] rfl rfl (by kernel_rfl) (fun _ _ _ h => h) (Or.inl ⟨by rfl, ?_⟩) hHeld ?_ ?_
  rotate_left
  · rintro w' z2
    go_simp
    with_reducible rfl
  rotate_left
  · simp only [Act.put, List.setIfInBounds_toArray, List.set_cons_zero, List.set_cons_succ, i64_w, i32_w]
    rfl
  refine one_ (i := 5) (N := none) #[true, true, true, true, true, true, false] rfl rfl (by kernel_rfl) (by decide) (fun K hK => ?_)
  refine storeRow_ rfl (ty := 56) (p := 2) rfl rfl w.heap.size #[.int .i64 0, .string ⟨#[]⟩, .int .u32 0, .int .u64 0, .bool false, .bool false, .int .u64 0, .int .u64 0, .int .i64 0, .int .u64 0, .slice none 0 0, .int .u64 0, .int .u64 0, .int .i64 0, .int .u64 0, .int .u64 0, .int .i64 0, .int .i64 0] rfl rfl 56 #[.int .i64 0, .string ⟨#[]⟩, .int .u32 0, .int .u64 0, .bool false, .bool false, .int .u64 0, .int .u64 0, .int .i64 0, .int .u64 0, .slice none 0 0, .int .u64 0, .int .u64 0, .int .i64 0, .int .u64 0, .int .u64 0, .int .i64 0, .int .i64 0] KD.out.ns.t2 (by kernel_rfl) rfl (by simp [Value.oneCell']) ?_
  intro w7 h7
  have P7 := Aside0.mk (KD.out.res h7)
  refine hK.out _ _ (cellAt (i := 2) P7.out.1.1 rfl) (fun hHeld => ?_)
  clear hK K h7
  refine pure_ (i := 6) (N := some 3) (v := ?_) (a' := ?_) #[true, true, true, true, true, true, true] rfl rfl (by kernel_rfl) (fun _ _ _ h => h) (Or.inl ⟨by rfl, ?_⟩) ?_ ?_
  rotate_left
  · intro w'
    go_simp
    with_reducible rfl
  rotate_left
  · simp only [Act.put, List.setIfInBounds_toArray, List.set_cons_zero, List.set_cons_succ, i64_w, i32_w]
    rfl
  refine done_ (by kernel_rfl) ?_
  go_wp2
  refine bodyPost_ret (results_ct rfl rfl rfl (run_loadVar_row (P := Try.prog) _ w.heap.size 56 56 _ (0, 0) _ P7.out.2.1 Try.underlying56 rfl (by kernel_rfl))) rfl ?_
  exact ⟨rfl, P7.out.2.2⟩
set_option maxHeartbeats 8000000 in
set_option maxRecDepth 100000 in
theorem ro1_good (s : ByteArray) (v1 e1 e2 : Int) (w : World) (hyr : IntKind.i64.wrap v1 = 1) (n1 : consortref19_taker_num.f 400 s 0 0 1 = some (v1, s, 1, e1)) (b2 : consortref19_taker_bad.f s 1 e1 10 false = some (s, 1, e2)) (b3 : consortref19_taker_bad.f s 1 e2 3 (decide (1024 < (s.size : Int))) = some (s, 1, 0)) (b4 : consortref19_taker_bad.f s (s.size : Int) 0 4 false = some (s, (s.size : Int), 0)) (h1 : 1 ≤ s.size) :
    Calls Try.prog 16 #[.string s] w fun e w' => e = .returned (.tuple #[.agg #[.int .i64 1, .string (txtAt s 1), .int .u32 0, .int .u64 0, .bool false, .bool false, .int .u64 0, .int .u64 0, .int .i64 0, .int .u64 0, .slice none 0 0, .int .u64 0, .int .u64 0, .int .i64 0, .int .u64 0, .int .u64 0, .int .i64 0, .int .i64 0], .int .i64 0]) ∧ Below w.heap.size w w' := by
  obtain ⟨d, hd⟩ : ∃ d, d = txtAt s 1 := ⟨_, rfl⟩
  rw [← hd]
  have hsl : s.extract 1 s.size = d := by rw [hd]; unfold txtAt; congr 1; omega
  have hsb : 1 ≤ s.size := h1
  clear hd h1
  have N1 := Aside0.mk n1
  have B2 := Aside0.mk b2
  have B3 := Aside0.mk b3
  have B4 := Aside0.mk b4
  have H0 := Aside0.mk (QS.start w s)
  clear n1 b2 b3 b4
  go_enter Try.func16, Try.ntmps16
  go_upto_region 3 with (first | (go_at_call 38; (with_reducible refine (consortref19_taker_num.calls 400 (w.heap.size + 1) s 0 0 1 v1 s 1 e1 w _ H0.out.st H0.out.bel N1.out).mono ?_); rintro _ w1 ⟨rfl, hi, hb, hk⟩; have K1 := Aside0.mk (H0.out.call hi hb hk); clear hi hb hk))
  have K2 := Aside0.mk (QT.start K1.out #[.int .i64 1, .string ⟨#[]⟩, .int .u32 0, .int .u64 0, .bool false, .bool false, .int .u64 0, .int .u64 0, .int .i64 0, .int .u64 0, .slice none 0 0, .int .u64 0, .int .u64 0, .int .i64 0, .int .u64 0, .int .u64 0, .int .i64 0, .int .i64 0])
  generalize w1.alloc (.cells #[.int .i64 1, .string ⟨#[]⟩, .int .u32 0, .int .u64 0, .bool false, .bool false, .int .u64 0, .int .u64 0, .int .i64 0, .int .u64 0, .slice none 0 0, .int .u64 0, .int .u64 0, .int .i64 0, .int .u64 0, .int .u64 0, .int .i64 0, .int .i64 0] 56) = W0 at K2 ⊢
  have k0 := cellAt (i := 0) K2.out.t6 rfl
  go_upto_region 20 with (first | (go_at_call 39; (with_reducible refine (consortref19_taker_bad.calls (w.heap.size + 1) s 1 e1 10 false s 1 e2 w _ K2.out.ns.st K2.out.ns.bel B2.out).mono ?_); rintro _ w2 ⟨rfl, hi, hb, hk⟩; have K3 := Aside0.mk (K2.out.call hi hb hk); clear k0; have k0 := cellAt (i := 0) K3.out.t6 rfl; clear hi hb hk) | (go_at_call 39; (with_reducible refine (consortref19_taker_bad.calls (w.heap.size + 1) s 1 e2 3 (decide (1024 < (s.size : Int))) s 1 0 w _ K3.out.ns.st K3.out.ns.bel B3.out).mono ?_); rintro _ w3 ⟨rfl, hi, hb, hk⟩; have K4 := Aside0.mk (K3.out.call hi hb hk); clear k0; have k0 := cellAt (i := 0) K4.out.t6 rfl; clear hi hb hk))
  have z2 := cellAt (i := 2) K4.out.ns.st.1 rfl
  have z1 := cellAt (i := 1) K4.out.ns.st.1 rfl; have s1 := cellAt (i := 1) K4.out.t6 rfl; have f1 := blk_frozen K4.out.t6 1
  go_upto_region 22 with fail
  clear z1 z2 k0
  have K5 := Aside0.mk (show QT w (w3.setCell ⟨w1.heap.size, 1, none⟩ (.string d)) _ w1.heap.size s 1 0 #[.int .i64 1, .string d, .int .u32 0, .int .u64 0, .bool false, .bool false, .int .u64 0, .int .u64 0, .int .i64 0, .int .u64 0, .slice none 0 0, .int .u64 0, .int .u64 0, .int .i64 0, .int .u64 0, .int .u64 0, .int .i64 0, .int .i64 0] from (K4.out.set 1 (.string d)))
  clear s1 f1
  generalize (w3.setCell ⟨w1.heap.size, 1, none⟩ (.string d)) = W5 at K5 ⊢
  have z1 := cellAt (i := 1) K5.out.ns.st.1 rfl; have zf1 := blk_frozen K5.out.ns.st.1 1
  go_upto_region 23 with fail
  have K6 := Aside0.mk (show QT w (W5.setCell ⟨w.heap.size + 1, 1, none⟩ (.int .i64 (s.size : Int))) _ w1.heap.size s (s.size : Int) 0 #[.int .i64 1, .string d, .int .u32 0, .int .u64 0, .bool false, .bool false, .int .u64 0, .int .u64 0, .int .i64 0, .int .u64 0, .slice none 0 0, .int .u64 0, .int .u64 0, .int .i64 0, .int .u64 0, .int .u64 0, .int .i64 0, .int .i64 0] from K5.out.at_ (s.size : Int))
  clear z1 zf1
  generalize (W5.setCell ⟨w.heap.size + 1, 1, none⟩ (.int .i64 (s.size : Int))) = W6 at K6 ⊢
  have z1 := cellAt (i := 1) K6.out.ns.st.1 rfl
  go_upto_if 115 with (first | (go_at_call 39; (with_reducible refine (consortref19_taker_bad.calls (w.heap.size + 1) s (s.size : Int) 0 4 false s (s.size : Int) 0 w _ K6.out.ns.st K6.out.ns.bel B4.out).mono ?_); rintro _ w4 ⟨rfl, hi, hb, hk⟩; have K7 := Aside0.mk (K6.out.call hi hb hk); have z2 := cellAt (i := 2) K7.out.ns.st.1 rfl; clear hi hb hk))
  go_wp2_with (first | ((with_reducible refine gate_dst (N := 121) rfl ?_); refine load_event rfl (.tmp 5) 56 rfl rfl (load56 K7.out.t6) ?_) | ((with_reducible refine gate_store (t := 56) (p := 2) rfl ?_); refine store_row_event rfl (ty := 56) (p := 2) rfl rfl w.heap.size #[.int .i64 1, .string d, .int .u32 0, .int .u64 0, .bool false, .bool false, .int .u64 0, .int .u64 0, .int .i64 0, .int .u64 0, .slice none 0 0, .int .u64 0, .int .u64 0, .int .i64 0, .int .u64 0, .int .u64 0, .int .i64 0, .int .i64 0] rfl rfl 56 #[.int .i64 0, .string ⟨#[]⟩, .int .u32 0, .int .u64 0, .bool false, .bool false, .int .u64 0, .int .u64 0, .int .i64 0, .int .u64 0, .slice none 0 0, .int .u64 0, .int .u64 0, .int .i64 0, .int .u64 0, .int .u64 0, .int .i64 0, .int .i64 0] K7.out.ns.t2 (by kernel_rfl) rfl (by simp [Value.oneCell']) ?_; intro w99 h7; have P7 := Aside0.mk (K7.out.res h7); clear h7))
  refine bodyPost_ret (results_ct rfl rfl rfl (run_loadVar_row (P := Try.prog) _ w.heap.size 56 56 _ (0, 0) _ P7.out.2.1 Try.underlying56 rfl (by kernel_rfl))) rfl ?_
  exact ⟨rfl, P7.out.2.2⟩
set_option maxHeartbeats 8000000 in
set_option maxRecDepth 100000 in
theorem ro3_bad (s : ByteArray) (v1 e1 e2 e3 r0 r1 r2 r3 e4 e9 : Int) (w : World) (hyr : IntKind.i64.wrap v1 = 3) (n1 : consortref19_taker_num.f 400 s 0 0 1 = some (v1, s, 1, e1)) (b2 : consortref19_taker_bad.f s 1 e1 10 false = some (s, 1, e2)) (b3 : consortref19_taker_bad.f s 1 e2 3 (decide (1024 < (s.size : Int))) = some (s, 1, e3)) (n4 : consortref19_taker_view.f 400 s 1 e3 = some (r0, r1, r2, r3, s, 26, e4)) (b5 : consortref19_taker_bad.f s 26 e4 4 (decide (26 < (s.size : Int))) = some (s, 26, e9)) (h9 : e9 ≠ 0) (h20 : e4 ≠ 0) :
    Calls Try.prog 16 #[.string s] w fun e w' => e = .returned (.tuple #[.agg #[.int .i64 0, .string ⟨#[]⟩, .int .u32 0, .int .u64 0, .bool false, .bool false, .int .u64 0, .int .u64 0, .int .i64 0, .int .u64 0, .slice none 0 0, .int .u64 0, .int .u64 0, .int .i64 0, .int .u64 0, .int .u64 0, .int .i64 0, .int .i64 0], .int .i64 e9]) ∧ Below w.heap.size w w' := by
  have q9 : (e9 != 0) = true := bne_iff_ne.mpr h9
  clear h9
  have q20 : (e4 == 0) = false := beq_eq_false_iff_ne.mpr h20
  clear h20
  have N1 := Aside0.mk n1
  have B2 := Aside0.mk b2
  have B3 := Aside0.mk b3
  have N4 := Aside0.mk n4
  have B5 := Aside0.mk b5
  have H0 := Aside0.mk (QS.start w s)
  clear n1 b2 b3 n4 b5
  go_enter Try.func16, Try.ntmps16
  go_upto_region 3 with (first | (go_at_call 38; (with_reducible refine (consortref19_taker_num.calls 400 (w.heap.size + 1) s 0 0 1 v1 s 1 e1 w _ H0.out.st H0.out.bel N1.out).mono ?_); rintro _ w1 ⟨rfl, hi, hb, hk⟩; have K1 := Aside0.mk (H0.out.call hi hb hk); clear hi hb hk))
  have K2 := Aside0.mk (QT.start K1.out #[.int .i64 3, .string ⟨#[]⟩, .int .u32 0, .int .u64 0, .bool false, .bool false, .int .u64 0, .int .u64 0, .int .i64 0, .int .u64 0, .slice none 0 0, .int .u64 0, .int .u64 0, .int .i64 0, .int .u64 0, .int .u64 0, .int .i64 0, .int .i64 0])
  generalize w1.alloc (.cells #[.int .i64 3, .string ⟨#[]⟩, .int .u32 0, .int .u64 0, .bool false, .bool false, .int .u64 0, .int .u64 0, .int .i64 0, .int .u64 0, .slice none 0 0, .int .u64 0, .int .u64 0, .int .i64 0, .int .u64 0, .int .u64 0, .int .i64 0, .int .i64 0] 56) = W0 at K2 ⊢
  have k0 := cellAt (i := 0) K2.out.t6 rfl
  go_upto_region 15 with (first | (go_at_call 39; (with_reducible refine (consortref19_taker_bad.calls (w.heap.size + 1) s 1 e1 10 false s 1 e2 w _ K2.out.ns.st K2.out.ns.bel B2.out).mono ?_); rintro _ w2 ⟨rfl, hi, hb, hk⟩; have K3 := Aside0.mk (K2.out.call hi hb hk); clear k0; have k0 := cellAt (i := 0) K3.out.t6 rfl; clear hi hb hk) | (go_at_call 39; (with_reducible refine (consortref19_taker_bad.calls (w.heap.size + 1) s 1 e2 3 (decide (1024 < (s.size : Int))) s 1 e3 w _ K3.out.ns.st K3.out.ns.bel B3.out).mono ?_); rintro _ w3 ⟨rfl, hi, hb, hk⟩; have K4 := Aside0.mk (K3.out.call hi hb hk); clear k0; have k0 := cellAt (i := 0) K4.out.t6 rfl; clear hi hb hk))
  clear k0
  go_upto_region 20 with (first | (go_at_call 41; (with_reducible refine (consortref19_taker_view.calls 400 (w.heap.size + 1) s 1 e3 r0 r1 r2 r3 s 26 e4 w _ K4.out.ns.st K4.out.ns.bel N4.out).mono ?_); rintro _ w4 ⟨rfl, hi, hb, hk⟩; have K5 := Aside0.mk (K4.out.call hi hb hk); have s11 := cellAt (i := 11) K5.out.t6 rfl; have f11 := blk_frozen K5.out.t6 11; have s12 := cellAt (i := 12) K5.out.t6 rfl; have f12 := blk_frozen K5.out.t6 12; have s13 := cellAt (i := 13) K5.out.t6 rfl; have f13 := blk_frozen K5.out.t6 13; have s14 := cellAt (i := 14) K5.out.t6 rfl; have f14 := blk_frozen K5.out.t6 14; clear hi hb hk))
  have K6 := Aside0.mk (show QT w ((((w4.setCell ⟨w1.heap.size, 11, none⟩ (.int .u64 r0)).setCell ⟨w1.heap.size, 12, none⟩ (.int .u64 r1)).setCell ⟨w1.heap.size, 13, none⟩ (.int .i64 r2)).setCell ⟨w1.heap.size, 14, none⟩ (.int .u64 r3)) _ w1.heap.size s 26 e4 #[.int .i64 3, .string ⟨#[]⟩, .int .u32 0, .int .u64 0, .bool false, .bool false, .int .u64 0, .int .u64 0, .int .i64 0, .int .u64 0, .slice none 0 0, .int .u64 r0, .int .u64 r1, .int .i64 r2, .int .u64 r3, .int .u64 0, .int .i64 0, .int .i64 0] from ((((K5.out.set 11 (.int .u64 r0)).set 12 (.int .u64 r1)).set 13 (.int .i64 r2)).set 14 (.int .u64 r3)))
  clear s11 f11 s12 f12 s13 f13 s14 f14
  generalize ((((w4.setCell ⟨w1.heap.size, 11, none⟩ (.int .u64 r0)).setCell ⟨w1.heap.size, 12, none⟩ (.int .u64 r1)).setCell ⟨w1.heap.size, 13, none⟩ (.int .i64 r2)).setCell ⟨w1.heap.size, 14, none⟩ (.int .u64 r3)) = W6 at K6 ⊢
  have z2 := cellAt (i := 2) K6.out.ns.st.1 rfl; have k0 := cellAt (i := 0) K6.out.t6 rfl
  go_upto_region 23 with fail
  clear z2 k0
  have z1 := cellAt (i := 1) K6.out.ns.st.1 rfl
  go_upto_if 115 with (first | (go_at_call 39; (with_reducible refine (consortref19_taker_bad.calls (w.heap.size + 1) s 26 e4 4 (decide (26 < (s.size : Int))) s 26 e9 w _ K6.out.ns.st K6.out.ns.bel B5.out).mono ?_); rintro _ w5 ⟨rfl, hi, hb, hk⟩; have K7 := Aside0.mk (K6.out.call hi hb hk); have z2 := cellAt (i := 2) K7.out.ns.st.1 rfl; clear hi hb hk))
  go_wp2
  refine start_ (n := 7) (S := fun w' : World => w'.cell? ⟨w.heap.size + 1, 2, none⟩ = some (.int .i64 e9)) (ds := []) #[false, false, false, false, false, false, false] (by kernel_rfl) rfl rfl z2 (fun hHeld => ?_)
  clear z2
  have KD := Aside0.mk (K7.out.below (W1 := w5.drew) (below_drew (Below.refl _ _)))
  generalize w5.drew = wd at KD hHeld ⊢
  refine pure_ (i := 0) (N := some 116) (v := ?_) (a' := ?_) #[true, false, false, false, false, false, false] rfl rfl (by kernel_rfl) (fun _ _ _ h => h) (Or.inl ⟨by rfl, ?_⟩) ?_ ?_
  rotate_left
  · intro w'
    go_simp
    with_reducible rfl
  rotate_left
  · simp only [Act.put, List.setIfInBounds_toArray, List.set_cons_zero, List.set_cons_succ, i64_w, i32_w]
    rfl
  refine pure_ (i := 1) (N := some 117) (v := ?_) (a' := ?_) #[true, true, false, false, false, false, false] rfl rfl (by kernel_rfl) (fun _ _ _ h => h) (Or.inl ⟨by rfl, ?_⟩) ?_ ?_
  rotate_left
  · intro w'
    go_simp
    with_reducible rfl
  rotate_left
  · simp only [Act.put, List.setIfInBounds_toArray, List.set_cons_zero, List.set_cons_succ, i64_w, i32_w]
    rfl
  refine pure_ (i := 2) (N := some 118) (v := ?_) (a' := ?_) #[true, true, true, false, false, false, false] rfl rfl (by kernel_rfl) (fun _ _ _ h => h) (Or.inl ⟨by rfl, ?_⟩) ?_ ?_
  rotate_left
  · intro w'
    go_simp
    with_reducible rfl
  rotate_left
  · simp only [Act.put, List.setIfInBounds_toArray, List.set_cons_zero, List.set_cons_succ, i64_w, i32_w]
    rfl
  refine pure_ (i := 3) (N := some 119) (v := ?_) (a' := ?_) #[true, true, true, true, false, false, false] rfl rfl (by kernel_rfl) (fun _ _ _ h => h) (Or.inl ⟨by rfl, ?_⟩) ?_ ?_
  rotate_left
  · intro w'
    go_simp
    with_reducible rfl
  rotate_left
  · simp only [Act.put, List.setIfInBounds_toArray, List.set_cons_zero, List.set_cons_succ, i64_w, i32_w]
    rfl
  refine take_ (i := 4) (N := some 120) (v := ?_) (a' := ?_) #[true, true, true, true, true, false, false] rfl rfl (by kernel_rfl) (fun _ _ _ h => h) (Or.inl ⟨by rfl, ?_⟩) hHeld ?_ ?_
  rotate_left
  · rintro w' z2
    go_simp
    with_reducible rfl
  rotate_left
  · simp only [Act.put, List.setIfInBounds_toArray, List.set_cons_zero, List.set_cons_succ, i64_w, i32_w]
    rfl
  refine one_ (i := 5) (N := none) #[true, true, true, true, true, true, false] rfl rfl (by kernel_rfl) (by decide) (fun K hK => ?_)
  refine storeRow_ rfl (ty := 56) (p := 2) rfl rfl w.heap.size #[.int .i64 0, .string ⟨#[]⟩, .int .u32 0, .int .u64 0, .bool false, .bool false, .int .u64 0, .int .u64 0, .int .i64 0, .int .u64 0, .slice none 0 0, .int .u64 0, .int .u64 0, .int .i64 0, .int .u64 0, .int .u64 0, .int .i64 0, .int .i64 0] rfl rfl 56 #[.int .i64 0, .string ⟨#[]⟩, .int .u32 0, .int .u64 0, .bool false, .bool false, .int .u64 0, .int .u64 0, .int .i64 0, .int .u64 0, .slice none 0 0, .int .u64 0, .int .u64 0, .int .i64 0, .int .u64 0, .int .u64 0, .int .i64 0, .int .i64 0] KD.out.ns.t2 (by kernel_rfl) rfl (by simp [Value.oneCell']) ?_
  intro w7 h7
  have P7 := Aside0.mk (KD.out.res h7)
  refine hK.out _ _ (cellAt (i := 2) P7.out.1.1 rfl) (fun hHeld => ?_)
  clear hK K h7
  refine pure_ (i := 6) (N := some 3) (v := ?_) (a' := ?_) #[true, true, true, true, true, true, true] rfl rfl (by kernel_rfl) (fun _ _ _ h => h) (Or.inl ⟨by rfl, ?_⟩) ?_ ?_
  rotate_left
  · intro w'
    go_simp
    with_reducible rfl
  rotate_left
  · simp only [Act.put, List.setIfInBounds_toArray, List.set_cons_zero, List.set_cons_succ, i64_w, i32_w]
    rfl
  refine done_ (by kernel_rfl) ?_
  go_wp2
  refine bodyPost_ret (results_ct rfl rfl rfl (run_loadVar_row (P := Try.prog) _ w.heap.size 56 56 _ (0, 0) _ P7.out.2.1 Try.underlying56 rfl (by kernel_rfl))) rfl ?_
  exact ⟨rfl, P7.out.2.2⟩
set_option maxHeartbeats 8000000 in
set_option maxRecDepth 100000 in
theorem ro3_bad0 (s : ByteArray) (v1 e1 e2 e3 r0 r1 r2 r3 e9 : Int) (w : World) (hyr : IntKind.i64.wrap v1 = 3) (n1 : consortref19_taker_num.f 400 s 0 0 1 = some (v1, s, 1, e1)) (b2 : consortref19_taker_bad.f s 1 e1 10 false = some (s, 1, e2)) (b3 : consortref19_taker_bad.f s 1 e2 3 (decide (1024 < (s.size : Int))) = some (s, 1, e3)) (n4 : consortref19_taker_view.f 400 s 1 e3 = some (r0, r1, r2, r3, s, 26, 0)) (b5 : consortref19_taker_bad.f s 26 0 4 (decide (26 < (s.size : Int))) = some (s, 26, e9)) (h9 : e9 ≠ 0) :
    Calls Try.prog 16 #[.string s] w fun e w' => e = .returned (.tuple #[.agg #[.int .i64 0, .string ⟨#[]⟩, .int .u32 0, .int .u64 0, .bool false, .bool false, .int .u64 0, .int .u64 0, .int .i64 0, .int .u64 0, .slice none 0 0, .int .u64 0, .int .u64 0, .int .i64 0, .int .u64 0, .int .u64 0, .int .i64 0, .int .i64 0], .int .i64 e9]) ∧ Below w.heap.size w w' := by
  have q9 : (e9 != 0) = true := bne_iff_ne.mpr h9
  clear h9
  have N1 := Aside0.mk n1
  have B2 := Aside0.mk b2
  have B3 := Aside0.mk b3
  have N4 := Aside0.mk n4
  have B5 := Aside0.mk b5
  have H0 := Aside0.mk (QS.start w s)
  clear n1 b2 b3 n4 b5
  go_enter Try.func16, Try.ntmps16
  go_upto_region 3 with (first | (go_at_call 38; (with_reducible refine (consortref19_taker_num.calls 400 (w.heap.size + 1) s 0 0 1 v1 s 1 e1 w _ H0.out.st H0.out.bel N1.out).mono ?_); rintro _ w1 ⟨rfl, hi, hb, hk⟩; have K1 := Aside0.mk (H0.out.call hi hb hk); clear hi hb hk))
  have K2 := Aside0.mk (QT.start K1.out #[.int .i64 3, .string ⟨#[]⟩, .int .u32 0, .int .u64 0, .bool false, .bool false, .int .u64 0, .int .u64 0, .int .i64 0, .int .u64 0, .slice none 0 0, .int .u64 0, .int .u64 0, .int .i64 0, .int .u64 0, .int .u64 0, .int .i64 0, .int .i64 0])
  generalize w1.alloc (.cells #[.int .i64 3, .string ⟨#[]⟩, .int .u32 0, .int .u64 0, .bool false, .bool false, .int .u64 0, .int .u64 0, .int .i64 0, .int .u64 0, .slice none 0 0, .int .u64 0, .int .u64 0, .int .i64 0, .int .u64 0, .int .u64 0, .int .i64 0, .int .i64 0] 56) = W0 at K2 ⊢
  have k0 := cellAt (i := 0) K2.out.t6 rfl
  go_upto_region 15 with (first | (go_at_call 39; (with_reducible refine (consortref19_taker_bad.calls (w.heap.size + 1) s 1 e1 10 false s 1 e2 w _ K2.out.ns.st K2.out.ns.bel B2.out).mono ?_); rintro _ w2 ⟨rfl, hi, hb, hk⟩; have K3 := Aside0.mk (K2.out.call hi hb hk); clear k0; have k0 := cellAt (i := 0) K3.out.t6 rfl; clear hi hb hk) | (go_at_call 39; (with_reducible refine (consortref19_taker_bad.calls (w.heap.size + 1) s 1 e2 3 (decide (1024 < (s.size : Int))) s 1 e3 w _ K3.out.ns.st K3.out.ns.bel B3.out).mono ?_); rintro _ w3 ⟨rfl, hi, hb, hk⟩; have K4 := Aside0.mk (K3.out.call hi hb hk); clear k0; have k0 := cellAt (i := 0) K4.out.t6 rfl; clear hi hb hk))
  clear k0
  go_upto_region 20 with (first | (go_at_call 41; (with_reducible refine (consortref19_taker_view.calls 400 (w.heap.size + 1) s 1 e3 r0 r1 r2 r3 s 26 0 w _ K4.out.ns.st K4.out.ns.bel N4.out).mono ?_); rintro _ w4 ⟨rfl, hi, hb, hk⟩; have K5 := Aside0.mk (K4.out.call hi hb hk); have s11 := cellAt (i := 11) K5.out.t6 rfl; have f11 := blk_frozen K5.out.t6 11; have s12 := cellAt (i := 12) K5.out.t6 rfl; have f12 := blk_frozen K5.out.t6 12; have s13 := cellAt (i := 13) K5.out.t6 rfl; have f13 := blk_frozen K5.out.t6 13; have s14 := cellAt (i := 14) K5.out.t6 rfl; have f14 := blk_frozen K5.out.t6 14; clear hi hb hk))
  have K6 := Aside0.mk (show QT w ((((w4.setCell ⟨w1.heap.size, 11, none⟩ (.int .u64 r0)).setCell ⟨w1.heap.size, 12, none⟩ (.int .u64 r1)).setCell ⟨w1.heap.size, 13, none⟩ (.int .i64 r2)).setCell ⟨w1.heap.size, 14, none⟩ (.int .u64 r3)) _ w1.heap.size s 26 0 #[.int .i64 3, .string ⟨#[]⟩, .int .u32 0, .int .u64 0, .bool false, .bool false, .int .u64 0, .int .u64 0, .int .i64 0, .int .u64 0, .slice none 0 0, .int .u64 r0, .int .u64 r1, .int .i64 r2, .int .u64 r3, .int .u64 0, .int .i64 0, .int .i64 0] from ((((K5.out.set 11 (.int .u64 r0)).set 12 (.int .u64 r1)).set 13 (.int .i64 r2)).set 14 (.int .u64 r3)))
  clear s11 f11 s12 f12 s13 f13 s14 f14
  generalize ((((w4.setCell ⟨w1.heap.size, 11, none⟩ (.int .u64 r0)).setCell ⟨w1.heap.size, 12, none⟩ (.int .u64 r1)).setCell ⟨w1.heap.size, 13, none⟩ (.int .i64 r2)).setCell ⟨w1.heap.size, 14, none⟩ (.int .u64 r3)) = W6 at K6 ⊢
  have z2 := cellAt (i := 2) K6.out.ns.st.1 rfl; have k0 := cellAt (i := 0) K6.out.t6 rfl
  go_upto_region 23 with fail
  clear z2 k0
  have z1 := cellAt (i := 1) K6.out.ns.st.1 rfl
  go_upto_if 115 with (first | (go_at_call 39; (with_reducible refine (consortref19_taker_bad.calls (w.heap.size + 1) s 26 0 4 (decide (26 < (s.size : Int))) s 26 e9 w _ K6.out.ns.st K6.out.ns.bel B5.out).mono ?_); rintro _ w5 ⟨rfl, hi, hb, hk⟩; have K7 := Aside0.mk (K6.out.call hi hb hk); have z2 := cellAt (i := 2) K7.out.ns.st.1 rfl; clear hi hb hk))
  go_wp2
  refine start_ (n := 7) (S := fun w' : World => w'.cell? ⟨w.heap.size + 1, 2, none⟩ = some (.int .i64 e9)) (ds := []) #[false, false, false, false, false, false, false] (by kernel_rfl) rfl rfl z2 (fun hHeld => ?_)
  clear z2
  have KD := Aside0.mk (K7.out.below (W1 := w5.drew) (below_drew (Below.refl _ _)))
  generalize w5.drew = wd at KD hHeld ⊢
  refine pure_ (i := 0) (N := some 116) (v := ?_) (a' := ?_) #[true, false, false, false, false, false, false] rfl rfl (by kernel_rfl) (fun _ _ _ h => h) (Or.inl ⟨by rfl, ?_⟩) ?_ ?_
  rotate_left
  · intro w'
    go_simp
    with_reducible rfl
  rotate_left
  · simp only [Act.put, List.setIfInBounds_toArray, List.set_cons_zero, List.set_cons_succ, i64_w, i32_w]
    rfl
  refine pure_ (i := 1) (N := some 117) (v := ?_) (a' := ?_) #[true, true, false, false, false, false, false] rfl rfl (by kernel_rfl) (fun _ _ _ h => h) (Or.inl ⟨by rfl, ?_⟩) ?_ ?_
  rotate_left
  · intro w'
    go_simp
    with_reducible rfl
  rotate_left
  · simp only [Act.put, List.setIfInBounds_toArray, List.set_cons_zero, List.set_cons_succ, i64_w, i32_w]
    rfl
  refine pure_ (i := 2) (N := some 118) (v := ?_) (a' := ?_) #[true, true, true, false, false, false, false] rfl rfl (by kernel_rfl) (fun _ _ _ h => h) (Or.inl ⟨by rfl, ?_⟩) ?_ ?_
  rotate_left
  · intro w'
    go_simp
    with_reducible rfl
  rotate_left
  · simp only [Act.put, List.setIfInBounds_toArray, List.set_cons_zero, List.set_cons_succ, i64_w, i32_w]
    rfl
  refine pure_ (i := 3) (N := some 119) (v := ?_) (a' := ?_) #[true, true, true, true, false, false, false] rfl rfl (by kernel_rfl) (fun _ _ _ h => h) (Or.inl ⟨by rfl, ?_⟩) ?_ ?_
  rotate_left
  · intro w'
    go_simp
    with_reducible rfl
  rotate_left
  · simp only [Act.put, List.setIfInBounds_toArray, List.set_cons_zero, List.set_cons_succ, i64_w, i32_w]
    rfl
  refine take_ (i := 4) (N := some 120) (v := ?_) (a' := ?_) #[true, true, true, true, true, false, false] rfl rfl (by kernel_rfl) (fun _ _ _ h => h) (Or.inl ⟨by rfl, ?_⟩) hHeld ?_ ?_
  rotate_left
  · rintro w' z2
    go_simp
    with_reducible rfl
  rotate_left
  · simp only [Act.put, List.setIfInBounds_toArray, List.set_cons_zero, List.set_cons_succ, i64_w, i32_w]
    rfl
  refine one_ (i := 5) (N := none) #[true, true, true, true, true, true, false] rfl rfl (by kernel_rfl) (by decide) (fun K hK => ?_)
  refine storeRow_ rfl (ty := 56) (p := 2) rfl rfl w.heap.size #[.int .i64 0, .string ⟨#[]⟩, .int .u32 0, .int .u64 0, .bool false, .bool false, .int .u64 0, .int .u64 0, .int .i64 0, .int .u64 0, .slice none 0 0, .int .u64 0, .int .u64 0, .int .i64 0, .int .u64 0, .int .u64 0, .int .i64 0, .int .i64 0] rfl rfl 56 #[.int .i64 0, .string ⟨#[]⟩, .int .u32 0, .int .u64 0, .bool false, .bool false, .int .u64 0, .int .u64 0, .int .i64 0, .int .u64 0, .slice none 0 0, .int .u64 0, .int .u64 0, .int .i64 0, .int .u64 0, .int .u64 0, .int .i64 0, .int .i64 0] KD.out.ns.t2 (by kernel_rfl) rfl (by simp [Value.oneCell']) ?_
  intro w7 h7
  have P7 := Aside0.mk (KD.out.res h7)
  refine hK.out _ _ (cellAt (i := 2) P7.out.1.1 rfl) (fun hHeld => ?_)
  clear hK K h7
  refine pure_ (i := 6) (N := some 3) (v := ?_) (a' := ?_) #[true, true, true, true, true, true, true] rfl rfl (by kernel_rfl) (fun _ _ _ h => h) (Or.inl ⟨by rfl, ?_⟩) ?_ ?_
  rotate_left
  · intro w'
    go_simp
    with_reducible rfl
  rotate_left
  · simp only [Act.put, List.setIfInBounds_toArray, List.set_cons_zero, List.set_cons_succ, i64_w, i32_w]
    rfl
  refine done_ (by kernel_rfl) ?_
  go_wp2
  refine bodyPost_ret (results_ct rfl rfl rfl (run_loadVar_row (P := Try.prog) _ w.heap.size 56 56 _ (0, 0) _ P7.out.2.1 Try.underlying56 rfl (by kernel_rfl))) rfl ?_
  exact ⟨rfl, P7.out.2.2⟩
set_option maxHeartbeats 8000000 in
set_option maxRecDepth 100000 in
theorem ro3_good (s : ByteArray) (v1 e1 e2 e3 r0 r1 r2 r3 : Int) (w : World) (hyr : IntKind.i64.wrap v1 = 3) (n1 : consortref19_taker_num.f 400 s 0 0 1 = some (v1, s, 1, e1)) (b2 : consortref19_taker_bad.f s 1 e1 10 false = some (s, 1, e2)) (b3 : consortref19_taker_bad.f s 1 e2 3 (decide (1024 < (s.size : Int))) = some (s, 1, e3)) (n4 : consortref19_taker_view.f 400 s 1 e3 = some (r0, r1, r2, r3, s, 26, 0)) (b5 : consortref19_taker_bad.f s 26 0 4 (decide (26 < (s.size : Int))) = some (s, 26, 0)) :
    Calls Try.prog 16 #[.string s] w fun e w' => e = .returned (.tuple #[.agg #[.int .i64 3, .string ⟨#[]⟩, .int .u32 0, .int .u64 0, .bool false, .bool false, .int .u64 0, .int .u64 0, .int .i64 0, .int .u64 0, .slice none 0 0, .int .u64 r0, .int .u64 r1, .int .i64 r2, .int .u64 r3, .int .u64 0, .int .i64 0, .int .i64 0], .int .i64 0]) ∧ Below w.heap.size w w' := by
  have N1 := Aside0.mk n1
  have B2 := Aside0.mk b2
  have B3 := Aside0.mk b3
  have N4 := Aside0.mk n4
  have B5 := Aside0.mk b5
  have H0 := Aside0.mk (QS.start w s)
  clear n1 b2 b3 n4 b5
  go_enter Try.func16, Try.ntmps16
  go_upto_region 3 with (first | (go_at_call 38; (with_reducible refine (consortref19_taker_num.calls 400 (w.heap.size + 1) s 0 0 1 v1 s 1 e1 w _ H0.out.st H0.out.bel N1.out).mono ?_); rintro _ w1 ⟨rfl, hi, hb, hk⟩; have K1 := Aside0.mk (H0.out.call hi hb hk); clear hi hb hk))
  have K2 := Aside0.mk (QT.start K1.out #[.int .i64 3, .string ⟨#[]⟩, .int .u32 0, .int .u64 0, .bool false, .bool false, .int .u64 0, .int .u64 0, .int .i64 0, .int .u64 0, .slice none 0 0, .int .u64 0, .int .u64 0, .int .i64 0, .int .u64 0, .int .u64 0, .int .i64 0, .int .i64 0])
  generalize w1.alloc (.cells #[.int .i64 3, .string ⟨#[]⟩, .int .u32 0, .int .u64 0, .bool false, .bool false, .int .u64 0, .int .u64 0, .int .i64 0, .int .u64 0, .slice none 0 0, .int .u64 0, .int .u64 0, .int .i64 0, .int .u64 0, .int .u64 0, .int .i64 0, .int .i64 0] 56) = W0 at K2 ⊢
  have k0 := cellAt (i := 0) K2.out.t6 rfl
  go_upto_region 15 with (first | (go_at_call 39; (with_reducible refine (consortref19_taker_bad.calls (w.heap.size + 1) s 1 e1 10 false s 1 e2 w _ K2.out.ns.st K2.out.ns.bel B2.out).mono ?_); rintro _ w2 ⟨rfl, hi, hb, hk⟩; have K3 := Aside0.mk (K2.out.call hi hb hk); clear k0; have k0 := cellAt (i := 0) K3.out.t6 rfl; clear hi hb hk) | (go_at_call 39; (with_reducible refine (consortref19_taker_bad.calls (w.heap.size + 1) s 1 e2 3 (decide (1024 < (s.size : Int))) s 1 e3 w _ K3.out.ns.st K3.out.ns.bel B3.out).mono ?_); rintro _ w3 ⟨rfl, hi, hb, hk⟩; have K4 := Aside0.mk (K3.out.call hi hb hk); clear k0; have k0 := cellAt (i := 0) K4.out.t6 rfl; clear hi hb hk))
  clear k0
  go_upto_region 20 with (first | (go_at_call 41; (with_reducible refine (consortref19_taker_view.calls 400 (w.heap.size + 1) s 1 e3 r0 r1 r2 r3 s 26 0 w _ K4.out.ns.st K4.out.ns.bel N4.out).mono ?_); rintro _ w4 ⟨rfl, hi, hb, hk⟩; have K5 := Aside0.mk (K4.out.call hi hb hk); have s11 := cellAt (i := 11) K5.out.t6 rfl; have f11 := blk_frozen K5.out.t6 11; have s12 := cellAt (i := 12) K5.out.t6 rfl; have f12 := blk_frozen K5.out.t6 12; have s13 := cellAt (i := 13) K5.out.t6 rfl; have f13 := blk_frozen K5.out.t6 13; have s14 := cellAt (i := 14) K5.out.t6 rfl; have f14 := blk_frozen K5.out.t6 14; clear hi hb hk))
  have K6 := Aside0.mk (show QT w ((((w4.setCell ⟨w1.heap.size, 11, none⟩ (.int .u64 r0)).setCell ⟨w1.heap.size, 12, none⟩ (.int .u64 r1)).setCell ⟨w1.heap.size, 13, none⟩ (.int .i64 r2)).setCell ⟨w1.heap.size, 14, none⟩ (.int .u64 r3)) _ w1.heap.size s 26 0 #[.int .i64 3, .string ⟨#[]⟩, .int .u32 0, .int .u64 0, .bool false, .bool false, .int .u64 0, .int .u64 0, .int .i64 0, .int .u64 0, .slice none 0 0, .int .u64 r0, .int .u64 r1, .int .i64 r2, .int .u64 r3, .int .u64 0, .int .i64 0, .int .i64 0] from ((((K5.out.set 11 (.int .u64 r0)).set 12 (.int .u64 r1)).set 13 (.int .i64 r2)).set 14 (.int .u64 r3)))
  clear s11 f11 s12 f12 s13 f13 s14 f14
  generalize ((((w4.setCell ⟨w1.heap.size, 11, none⟩ (.int .u64 r0)).setCell ⟨w1.heap.size, 12, none⟩ (.int .u64 r1)).setCell ⟨w1.heap.size, 13, none⟩ (.int .i64 r2)).setCell ⟨w1.heap.size, 14, none⟩ (.int .u64 r3)) = W6 at K6 ⊢
  have z2 := cellAt (i := 2) K6.out.ns.st.1 rfl; have k0 := cellAt (i := 0) K6.out.t6 rfl
  go_upto_region 23 with fail
  clear z2 k0
  have z1 := cellAt (i := 1) K6.out.ns.st.1 rfl
  go_upto_if 115 with (first | (go_at_call 39; (with_reducible refine (consortref19_taker_bad.calls (w.heap.size + 1) s 26 0 4 (decide (26 < (s.size : Int))) s 26 0 w _ K6.out.ns.st K6.out.ns.bel B5.out).mono ?_); rintro _ w5 ⟨rfl, hi, hb, hk⟩; have K7 := Aside0.mk (K6.out.call hi hb hk); have z2 := cellAt (i := 2) K7.out.ns.st.1 rfl; clear hi hb hk))
  go_wp2_with (first | ((with_reducible refine gate_dst (N := 121) rfl ?_); refine load_event rfl (.tmp 5) 56 rfl rfl (load56 K7.out.t6) ?_) | ((with_reducible refine gate_store (t := 56) (p := 2) rfl ?_); refine store_row_event rfl (ty := 56) (p := 2) rfl rfl w.heap.size #[.int .i64 3, .string ⟨#[]⟩, .int .u32 0, .int .u64 0, .bool false, .bool false, .int .u64 0, .int .u64 0, .int .i64 0, .int .u64 0, .slice none 0 0, .int .u64 r0, .int .u64 r1, .int .i64 r2, .int .u64 r3, .int .u64 0, .int .i64 0, .int .i64 0] rfl rfl 56 #[.int .i64 0, .string ⟨#[]⟩, .int .u32 0, .int .u64 0, .bool false, .bool false, .int .u64 0, .int .u64 0, .int .i64 0, .int .u64 0, .slice none 0 0, .int .u64 0, .int .u64 0, .int .i64 0, .int .u64 0, .int .u64 0, .int .i64 0, .int .i64 0] K7.out.ns.t2 (by kernel_rfl) rfl (by simp [Value.oneCell']) ?_; intro w99 h7; have P7 := Aside0.mk (K7.out.res h7); clear h7))
  refine bodyPost_ret (results_ct rfl rfl rfl (run_loadVar_row (P := Try.prog) _ w.heap.size 56 56 _ (0, 0) _ P7.out.2.1 Try.underlying56 rfl (by kernel_rfl))) rfl ?_
  exact ⟨rfl, P7.out.2.2⟩
end Go.Proofs.Ytlkemknhmfjdpaa.P
