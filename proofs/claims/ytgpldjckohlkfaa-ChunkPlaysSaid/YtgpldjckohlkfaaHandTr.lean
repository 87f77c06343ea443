/- The reference's Take, by hand: it writes to nothing that was there. -/
import Derived.Test.YtgpldjckohlkfaaHandN
import Derived.Test.YtgpldjckohlkfaaPx4
namespace Go.Proofs.Ytgpldjckohlkfaa.P
open Go.Proofs.YtgpldjckohlkfaaOv Go.RowKit Go.Proofs.YtgpldjckohlkfaaW.PrintWords Go.Proofs.YtgpldjckohlkfaaW.PrintLast Go.Proofs.YtgpldjckohlkfaaW.PrintMore Go.Proofs.YtgpldjckohlkfaaIMap
attribute [local go_sem] max2_int min2_int max_two min_two max_three min_three max_four min_four
set_option linter.unusedVariables false
set_option linter.unusedSimpArgs false

theorem C38_below {w W : World} {A : Option Addr} {n : Nat} {l : List S38} (h : Kd.C k38 w A n l) (hb : Below w.heap.size w W) : Kd.C k38 W A n l :=
  ⟨h.1, h.2.1, fun hn => by
    obtain ⟨ad, e, hc⟩ := h.2.2 hn
    refine ⟨ad, e, fun j p hj => ?_⟩
    obtain ⟨cs, hl, hK, hcs⟩ := hc j p hj
    exact ⟨cs, hl, k38_open hK ▸ k38_mk W p, fun i u hu => pw_cell_below hb (hcs i u hu)⟩⟩
theorem results_ct {P : Program} {fn : Func} {tmps : Array Value} {w : World} {p q : Tmp} {ty : TypeId} {a : Addr} {v u : Value} (hf : fn.results = #[.cell p ty, .tmp q]) (hp : tmps.getD p undef = .pointer (some a)) (hq : tmps.getD q undef = u)
    (h1 : (loadVar ty a).run P w = .ok v w) : (results fn tmps).run P w = .ok (.tuple #[v, u]) w := by
  subst hq
  unfold results
  rw [show fn.results = [ResultVar.cell p ty, ResultVar.tmp q].toArray from hf, List.mapM_toArray]
  simp only [Sem.run_bind, Sem.run_map, List.mapM_cons, List.mapM_nil, hp]
  simp [asAddr, h1]
/-- The three blocks of Take: its state, the item, the result. -/
structure RG (w W : World) (g1 g2 g3 : Nat) (cs1 cs2 cs3 : Array Value) : Prop where
  bel : Below w.heap.size w W
  b1 : W.heap[g1]? = some (.cells cs1 54 (0, 0))
  b2 : W.heap[g2]? = some (.cells cs2 38 (0, 0))
  b3 : W.heap[g3]? = some (.cells cs3 54 (0, 0))
  h1 : w.heap.size ≤ g1
  h2 : w.heap.size ≤ g2
  h3 : w.heap.size ≤ g3
  n13 : g1 ≠ g3
section
variable {w W W1 : World} {g1 g2 g3 : Nat} {cs1 cs2 cs3 : Array Value}
theorem RG.below (h : RG w W g1 g2 g3 cs1 cs2 cs3) (hb : Below W.heap.size W W1) : RG w W1 g1 g2 g3 cs1 cs2 cs3 :=
  ⟨below_step h.bel hb, (hb.block _ (blk_lt h.b1)).trans h.b1, (hb.block _ (blk_lt h.b2)).trans h.b2, (hb.block _ (blk_lt h.b3)).trans h.b3, h.h1, h.h2, h.h3, h.n13⟩
theorem RG.set3 (h : RG w W g1 g2 g3 cs1 cs2 cs3) (i : Nat) (u : Value) : RG w (W.setCell ⟨g3, i, none⟩ u) g1 g2 g3 cs1 cs2 (cs3.setIfInBounds i u) :=
  ⟨below_set h.bel h.h3, blk_far h.b1 (show g1 ≠ g3 from h.n13) u, blk_far h.b2 (show g2 ≠ g3 from fun e => by have := h.b2; rw [e, h.b3] at this; simp at this) u, by simpa using blk_set h.b3 i u, h.h1, h.h2, h.h3, h.n13⟩
theorem RG.set1 (h : RG w W g1 g2 g3 cs1 cs2 cs3) (i : Nat) (u : Value) : RG w (W.setCell ⟨g1, i, none⟩ u) g1 g2 g3 (cs1.setIfInBounds i u) cs2 cs3 :=
  ⟨below_set h.bel h.h1, by simpa using blk_set h.b1 i u, blk_far h.b2 (show g2 ≠ g1 from fun e => by have := h.b2; rw [e, h.b1] at this; simp at this) u, blk_far h.b3 (show g3 ≠ g1 from fun e => h.n13 e.symm) u, h.h1, h.h2, h.h3, h.n13⟩
end
set_option maxHeartbeats 8000000 in
set_option maxRecDepth 100000 in
theorem tr_no0 (a0 : Int) (A : Option Addr) (c : Nat) (l : List S38) (x0 : Int) (x1 : ByteArray) (x2 x3 : Int) (x4 x5 : Bool) (x6 x7 x8 x9 : Int) (x10 : OV) (x11 x12 x13 x14 x15 x16 x17 : Int) (w : World) (d0 : (x0 != 4) = true) : Calls Try.prog 15 #[.agg #[.int .u64 a0, .slice A l.length c], .agg #[.int .i64 x0, .string x1, .int .u32 x2, .int .u64 x3, .bool x4, .bool x5, .int .u64 x6, .int .u64 x7, .int .i64 x8, .int .u64 x9, .slice x10.A x10.n x10.c, .int .u64 x11, .int .u64 x12, .int .i64 x13, .int .u64 x14, .int .u64 x15, .int .i64 x16, .int .i64 x17]] w fun e w' => e = .returned (.tuple #[.agg #[.int .u64 a0, .slice A l.length c], .bool false]) ∧ Below w.heap.size w w' := by
  have hu54 := Try.underlying54
  go_enter Try.func15, Try.ntmps15
  go_upto_region 1 with (first | ((with_reducible refine gate_dst (N := 2) rfl ?_); refine box_event ?hg (N := 2) ?hd (cs := #[.int .u64 a0, .slice A l.length c]) (t := 54) ?hr ?_; (case hd => rfl); (case hg => rfl); (case hr => first | (go_simp; done) | (go_simp; rfl)); intro g1 hg w1 hbox hb; have HX1 := Aside0.mk hbox; have HB1 := Aside0.mk hb; have HG1 := Aside0.mk (show w.heap.size ≤ g1 from Nat.le_of_eq hg.symm); clear hg hbox hb) | ((with_reducible refine gate_dst (N := 3) rfl ?_); refine box_event ?hg (N := 3) ?hd (cs := #[.int .i64 x0, .string x1, .int .u32 x2, .int .u64 x3, .bool x4, .bool x5, .int .u64 x6, .int .u64 x7, .int .i64 x8, .int .u64 x9, .slice x10.A x10.n x10.c, .int .u64 x11, .int .u64 x12, .int .i64 x13, .int .u64 x14, .int .u64 x15, .int .i64 x16, .int .i64 x17]) (t := 38) ?hr ?_; (case hd => rfl); (case hg => rfl); (case hr => first | (go_simp; done) | (go_simp; rfl)); intro g2 hg w2 hbox hb; have HX2 := Aside0.mk hbox; have HX1' := Aside0.mk ((hb.block _ (blk_lt HX1.out)).trans HX1.out); have HB2 := Aside0.mk (below_step HB1.out hb); have HG2 := Aside0.mk (show w.heap.size ≤ g2 by rw [hg]; exact HB1.out.size); clear hg hbox hb))
  have R0 := Aside0.mk (show RG w (w2.alloc (.cells #[.int .u64 0, .slice none 0 0] 54)) g1 g2 w2.heap.size #[.int .u64 a0, .slice A l.length c] #[.int .i64 x0, .string x1, .int .u32 x2, .int .u64 x3, .bool x4, .bool x5, .int .u64 x6, .int .u64 x7, .int .i64 x8, .int .u64 x9, .slice x10.A x10.n x10.c, .int .u64 x11, .int .u64 x12, .int .i64 x13, .int .u64 x14, .int .u64 x15, .int .i64 x16, .int .i64 x17] #[.int .u64 0, .slice none 0 0] from ⟨below_alloc HB2.out _, ((below_alloc (Below.refl _ _) _).block _ (blk_lt HX1'.out)).trans HX1'.out, ((below_alloc (Below.refl _ _) _).block _ (blk_lt HX2.out)).trans HX2.out, heap_alloc_new w2 _, HG1.out, HG2.out, HB2.out.size, Nat.ne_of_lt (blk_lt HX1'.out)⟩)
  clear HX1 HX2 HX1' HB1 HB2
  obtain ⟨g3, hg3⟩ : ∃ g3, g3 = w2.heap.size := ⟨_, rfl⟩
  rw [← hg3] at R0 ⊢
  clear hg3
  generalize w2.alloc (.cells #[.int .u64 0, .slice none 0 0] 54) = w3 at R0 ⊢
  have p0 := cellAt (i := 0) R0.out.b1 rfl; have p1 := cellAt (i := 1) R0.out.b1 rfl
  have q0 := cellAt (i := 0) R0.out.b2 rfl; have q15 := cellAt (i := 15) R0.out.b2 rfl; have q16 := cellAt (i := 16) R0.out.b2 rfl; have q17 := cellAt (i := 17) R0.out.b2 rfl
  have f0 := blk_frozen R0.out.b3 0; have f1 := blk_frozen R0.out.b3 1; have r0 := cellAt (i := 0) R0.out.b3 rfl; have r1 := cellAt (i := 1) R0.out.b3 rfl
  go_wp2
  refine bodyPost_ret (results_ct rfl rfl rfl (run_loadVar_row (P := Try.prog) _ g3 54 54 _ (0, 0) _ ((R0.out.set3 0 (.int .u64 a0)).set3 1 (.slice A l.length c)).b3 Try.underlying54 rfl (by kernel_rfl))) rfl ?_
  exact ⟨rfl, ((R0.out.set3 0 (.int .u64 a0)).set3 1 (.slice A l.length c)).bel⟩
set_option maxHeartbeats 8000000 in
set_option maxRecDepth 100000 in
theorem tr_no1 (a0 : Int) (A : Option Addr) (c : Nat) (l : List S38) (x0 : Int) (x1 : ByteArray) (x2 x3 : Int) (x4 x5 : Bool) (x6 x7 x8 x9 : Int) (x10 : OV) (x11 x12 x13 x14 x15 x16 x17 : Int) (w : World) (d0 : (x0 != 4) = false) (d1 : (x15 != a0) = true) : Calls Try.prog 15 #[.agg #[.int .u64 a0, .slice A l.length c], .agg #[.int .i64 x0, .string x1, .int .u32 x2, .int .u64 x3, .bool x4, .bool x5, .int .u64 x6, .int .u64 x7, .int .i64 x8, .int .u64 x9, .slice x10.A x10.n x10.c, .int .u64 x11, .int .u64 x12, .int .i64 x13, .int .u64 x14, .int .u64 x15, .int .i64 x16, .int .i64 x17]] w fun e w' => e = .returned (.tuple #[.agg #[.int .u64 a0, .slice A l.length c], .bool false]) ∧ Below w.heap.size w w' := by
  have hu54 := Try.underlying54
  go_enter Try.func15, Try.ntmps15
  go_upto_region 1 with (first | ((with_reducible refine gate_dst (N := 2) rfl ?_); refine box_event ?hg (N := 2) ?hd (cs := #[.int .u64 a0, .slice A l.length c]) (t := 54) ?hr ?_; (case hd => rfl); (case hg => rfl); (case hr => first | (go_simp; done) | (go_simp; rfl)); intro g1 hg w1 hbox hb; have HX1 := Aside0.mk hbox; have HB1 := Aside0.mk hb; have HG1 := Aside0.mk (show w.heap.size ≤ g1 from Nat.le_of_eq hg.symm); clear hg hbox hb) | ((with_reducible refine gate_dst (N := 3) rfl ?_); refine box_event ?hg (N := 3) ?hd (cs := #[.int .i64 x0, .string x1, .int .u32 x2, .int .u64 x3, .bool x4, .bool x5, .int .u64 x6, .int .u64 x7, .int .i64 x8, .int .u64 x9, .slice x10.A x10.n x10.c, .int .u64 x11, .int .u64 x12, .int .i64 x13, .int .u64 x14, .int .u64 x15, .int .i64 x16, .int .i64 x17]) (t := 38) ?hr ?_; (case hd => rfl); (case hg => rfl); (case hr => first | (go_simp; done) | (go_simp; rfl)); intro g2 hg w2 hbox hb; have HX2 := Aside0.mk hbox; have HX1' := Aside0.mk ((hb.block _ (blk_lt HX1.out)).trans HX1.out); have HB2 := Aside0.mk (below_step HB1.out hb); have HG2 := Aside0.mk (show w.heap.size ≤ g2 by rw [hg]; exact HB1.out.size); clear hg hbox hb))
  have R0 := Aside0.mk (show RG w (w2.alloc (.cells #[.int .u64 0, .slice none 0 0] 54)) g1 g2 w2.heap.size #[.int .u64 a0, .slice A l.length c] #[.int .i64 x0, .string x1, .int .u32 x2, .int .u64 x3, .bool x4, .bool x5, .int .u64 x6, .int .u64 x7, .int .i64 x8, .int .u64 x9, .slice x10.A x10.n x10.c, .int .u64 x11, .int .u64 x12, .int .i64 x13, .int .u64 x14, .int .u64 x15, .int .i64 x16, .int .i64 x17] #[.int .u64 0, .slice none 0 0] from ⟨below_alloc HB2.out _, ((below_alloc (Below.refl _ _) _).block _ (blk_lt HX1'.out)).trans HX1'.out, ((below_alloc (Below.refl _ _) _).block _ (blk_lt HX2.out)).trans HX2.out, heap_alloc_new w2 _, HG1.out, HG2.out, HB2.out.size, Nat.ne_of_lt (blk_lt HX1'.out)⟩)
  clear HX1 HX2 HX1' HB1 HB2
  obtain ⟨g3, hg3⟩ : ∃ g3, g3 = w2.heap.size := ⟨_, rfl⟩
  rw [← hg3] at R0 ⊢
  clear hg3
  generalize w2.alloc (.cells #[.int .u64 0, .slice none 0 0] 54) = w3 at R0 ⊢
  have p0 := cellAt (i := 0) R0.out.b1 rfl; have p1 := cellAt (i := 1) R0.out.b1 rfl
  have q0 := cellAt (i := 0) R0.out.b2 rfl; have q15 := cellAt (i := 15) R0.out.b2 rfl; have q16 := cellAt (i := 16) R0.out.b2 rfl; have q17 := cellAt (i := 17) R0.out.b2 rfl
  have f0 := blk_frozen R0.out.b3 0; have f1 := blk_frozen R0.out.b3 1; have r0 := cellAt (i := 0) R0.out.b3 rfl; have r1 := cellAt (i := 1) R0.out.b3 rfl
  go_wp2
  refine bodyPost_ret (results_ct rfl rfl rfl (run_loadVar_row (P := Try.prog) _ g3 54 54 _ (0, 0) _ ((R0.out.set3 0 (.int .u64 a0)).set3 1 (.slice A l.length c)).b3 Try.underlying54 rfl (by kernel_rfl))) rfl ?_
  exact ⟨rfl, ((R0.out.set3 0 (.int .u64 a0)).set3 1 (.slice A l.length c)).bel⟩
set_option maxHeartbeats 8000000 in
set_option maxRecDepth 100000 in
theorem tr_no2 (a0 : Int) (A : Option Addr) (c : Nat) (l : List S38) (x0 : Int) (x1 : ByteArray) (x2 x3 : Int) (x4 x5 : Bool) (x6 x7 x8 x9 : Int) (x10 : OV) (x11 x12 x13 x14 x15 x16 x17 : Int) (w : World) (d0 : (x0 != 4) = false) (d1 : (x15 != a0) = false) (d2 : decide (x17 < 1) = true) : Calls Try.prog 15 #[.agg #[.int .u64 a0, .slice A l.length c], .agg #[.int .i64 x0, .string x1, .int .u32 x2, .int .u64 x3, .bool x4, .bool x5, .int .u64 x6, .int .u64 x7, .int .i64 x8, .int .u64 x9, .slice x10.A x10.n x10.c, .int .u64 x11, .int .u64 x12, .int .i64 x13, .int .u64 x14, .int .u64 x15, .int .i64 x16, .int .i64 x17]] w fun e w' => e = .returned (.tuple #[.agg #[.int .u64 a0, .slice A l.length c], .bool false]) ∧ Below w.heap.size w w' := by
  have hu54 := Try.underlying54
  go_enter Try.func15, Try.ntmps15
  go_upto_region 1 with (first | ((with_reducible refine gate_dst (N := 2) rfl ?_); refine box_event ?hg (N := 2) ?hd (cs := #[.int .u64 a0, .slice A l.length c]) (t := 54) ?hr ?_; (case hd => rfl); (case hg => rfl); (case hr => first | (go_simp; done) | (go_simp; rfl)); intro g1 hg w1 hbox hb; have HX1 := Aside0.mk hbox; have HB1 := Aside0.mk hb; have HG1 := Aside0.mk (show w.heap.size ≤ g1 from Nat.le_of_eq hg.symm); clear hg hbox hb) | ((with_reducible refine gate_dst (N := 3) rfl ?_); refine box_event ?hg (N := 3) ?hd (cs := #[.int .i64 x0, .string x1, .int .u32 x2, .int .u64 x3, .bool x4, .bool x5, .int .u64 x6, .int .u64 x7, .int .i64 x8, .int .u64 x9, .slice x10.A x10.n x10.c, .int .u64 x11, .int .u64 x12, .int .i64 x13, .int .u64 x14, .int .u64 x15, .int .i64 x16, .int .i64 x17]) (t := 38) ?hr ?_; (case hd => rfl); (case hg => rfl); (case hr => first | (go_simp; done) | (go_simp; rfl)); intro g2 hg w2 hbox hb; have HX2 := Aside0.mk hbox; have HX1' := Aside0.mk ((hb.block _ (blk_lt HX1.out)).trans HX1.out); have HB2 := Aside0.mk (below_step HB1.out hb); have HG2 := Aside0.mk (show w.heap.size ≤ g2 by rw [hg]; exact HB1.out.size); clear hg hbox hb))
  have R0 := Aside0.mk (show RG w (w2.alloc (.cells #[.int .u64 0, .slice none 0 0] 54)) g1 g2 w2.heap.size #[.int .u64 a0, .slice A l.length c] #[.int .i64 x0, .string x1, .int .u32 x2, .int .u64 x3, .bool x4, .bool x5, .int .u64 x6, .int .u64 x7, .int .i64 x8, .int .u64 x9, .slice x10.A x10.n x10.c, .int .u64 x11, .int .u64 x12, .int .i64 x13, .int .u64 x14, .int .u64 x15, .int .i64 x16, .int .i64 x17] #[.int .u64 0, .slice none 0 0] from ⟨below_alloc HB2.out _, ((below_alloc (Below.refl _ _) _).block _ (blk_lt HX1'.out)).trans HX1'.out, ((below_alloc (Below.refl _ _) _).block _ (blk_lt HX2.out)).trans HX2.out, heap_alloc_new w2 _, HG1.out, HG2.out, HB2.out.size, Nat.ne_of_lt (blk_lt HX1'.out)⟩)
  clear HX1 HX2 HX1' HB1 HB2
  obtain ⟨g3, hg3⟩ : ∃ g3, g3 = w2.heap.size := ⟨_, rfl⟩
  rw [← hg3] at R0 ⊢
  clear hg3
  generalize w2.alloc (.cells #[.int .u64 0, .slice none 0 0] 54) = w3 at R0 ⊢
  have p0 := cellAt (i := 0) R0.out.b1 rfl; have p1 := cellAt (i := 1) R0.out.b1 rfl
  have q0 := cellAt (i := 0) R0.out.b2 rfl; have q15 := cellAt (i := 15) R0.out.b2 rfl; have q16 := cellAt (i := 16) R0.out.b2 rfl; have q17 := cellAt (i := 17) R0.out.b2 rfl
  have f0 := blk_frozen R0.out.b3 0; have f1 := blk_frozen R0.out.b3 1; have r0 := cellAt (i := 0) R0.out.b3 rfl; have r1 := cellAt (i := 1) R0.out.b3 rfl
  go_wp2
  refine bodyPost_ret (results_ct rfl rfl rfl (run_loadVar_row (P := Try.prog) _ g3 54 54 _ (0, 0) _ ((R0.out.set3 0 (.int .u64 a0)).set3 1 (.slice A l.length c)).b3 Try.underlying54 rfl (by kernel_rfl))) rfl ?_
  exact ⟨rfl, ((R0.out.set3 0 (.int .u64 a0)).set3 1 (.slice A l.length c)).bel⟩
set_option maxHeartbeats 8000000 in
set_option maxRecDepth 100000 in
theorem tr_no3 (a0 : Int) (A : Option Addr) (c : Nat) (l : List S38) (x0 : Int) (x1 : ByteArray) (x2 x3 : Int) (x4 x5 : Bool) (x6 x7 x8 x9 : Int) (x10 : OV) (x11 x12 x13 x14 x15 x16 x17 : Int) (w : World) (d0 : (x0 != 4) = false) (d1 : (x15 != a0) = false) (d2 : decide (x17 < 1) = false) (d3 : decide (16 < x17) = true) : Calls Try.prog 15 #[.agg #[.int .u64 a0, .slice A l.length c], .agg #[.int .i64 x0, .string x1, .int .u32 x2, .int .u64 x3, .bool x4, .bool x5, .int .u64 x6, .int .u64 x7, .int .i64 x8, .int .u64 x9, .slice x10.A x10.n x10.c, .int .u64 x11, .int .u64 x12, .int .i64 x13, .int .u64 x14, .int .u64 x15, .int .i64 x16, .int .i64 x17]] w fun e w' => e = .returned (.tuple #[.agg #[.int .u64 a0, .slice A l.length c], .bool false]) ∧ Below w.heap.size w w' := by
  have hu54 := Try.underlying54
  go_enter Try.func15, Try.ntmps15
  go_upto_region 1 with (first | ((with_reducible refine gate_dst (N := 2) rfl ?_); refine box_event ?hg (N := 2) ?hd (cs := #[.int .u64 a0, .slice A l.length c]) (t := 54) ?hr ?_; (case hd => rfl); (case hg => rfl); (case hr => first | (go_simp; done) | (go_simp; rfl)); intro g1 hg w1 hbox hb; have HX1 := Aside0.mk hbox; have HB1 := Aside0.mk hb; have HG1 := Aside0.mk (show w.heap.size ≤ g1 from Nat.le_of_eq hg.symm); clear hg hbox hb) | ((with_reducible refine gate_dst (N := 3) rfl ?_); refine box_event ?hg (N := 3) ?hd (cs := #[.int .i64 x0, .string x1, .int .u32 x2, .int .u64 x3, .bool x4, .bool x5, .int .u64 x6, .int .u64 x7, .int .i64 x8, .int .u64 x9, .slice x10.A x10.n x10.c, .int .u64 x11, .int .u64 x12, .int .i64 x13, .int .u64 x14, .int .u64 x15, .int .i64 x16, .int .i64 x17]) (t := 38) ?hr ?_; (case hd => rfl); (case hg => rfl); (case hr => first | (go_simp; done) | (go_simp; rfl)); intro g2 hg w2 hbox hb; have HX2 := Aside0.mk hbox; have HX1' := Aside0.mk ((hb.block _ (blk_lt HX1.out)).trans HX1.out); have HB2 := Aside0.mk (below_step HB1.out hb); have HG2 := Aside0.mk (show w.heap.size ≤ g2 by rw [hg]; exact HB1.out.size); clear hg hbox hb))
  have R0 := Aside0.mk (show RG w (w2.alloc (.cells #[.int .u64 0, .slice none 0 0] 54)) g1 g2 w2.heap.size #[.int .u64 a0, .slice A l.length c] #[.int .i64 x0, .string x1, .int .u32 x2, .int .u64 x3, .bool x4, .bool x5, .int .u64 x6, .int .u64 x7, .int .i64 x8, .int .u64 x9, .slice x10.A x10.n x10.c, .int .u64 x11, .int .u64 x12, .int .i64 x13, .int .u64 x14, .int .u64 x15, .int .i64 x16, .int .i64 x17] #[.int .u64 0, .slice none 0 0] from ⟨below_alloc HB2.out _, ((below_alloc (Below.refl _ _) _).block _ (blk_lt HX1'.out)).trans HX1'.out, ((below_alloc (Below.refl _ _) _).block _ (blk_lt HX2.out)).trans HX2.out, heap_alloc_new w2 _, HG1.out, HG2.out, HB2.out.size, Nat.ne_of_lt (blk_lt HX1'.out)⟩)
  clear HX1 HX2 HX1' HB1 HB2
  obtain ⟨g3, hg3⟩ : ∃ g3, g3 = w2.heap.size := ⟨_, rfl⟩
  rw [← hg3] at R0 ⊢
  clear hg3
  generalize w2.alloc (.cells #[.int .u64 0, .slice none 0 0] 54) = w3 at R0 ⊢
  have p0 := cellAt (i := 0) R0.out.b1 rfl; have p1 := cellAt (i := 1) R0.out.b1 rfl
  have q0 := cellAt (i := 0) R0.out.b2 rfl; have q15 := cellAt (i := 15) R0.out.b2 rfl; have q16 := cellAt (i := 16) R0.out.b2 rfl; have q17 := cellAt (i := 17) R0.out.b2 rfl
  have f0 := blk_frozen R0.out.b3 0; have f1 := blk_frozen R0.out.b3 1; have r0 := cellAt (i := 0) R0.out.b3 rfl; have r1 := cellAt (i := 1) R0.out.b3 rfl
  go_wp2
  refine bodyPost_ret (results_ct rfl rfl rfl (run_loadVar_row (P := Try.prog) _ g3 54 54 _ (0, 0) _ ((R0.out.set3 0 (.int .u64 a0)).set3 1 (.slice A l.length c)).b3 Try.underlying54 rfl (by kernel_rfl))) rfl ?_
  exact ⟨rfl, ((R0.out.set3 0 (.int .u64 a0)).set3 1 (.slice A l.length c)).bel⟩
set_option maxHeartbeats 8000000 in
set_option maxRecDepth 100000 in
theorem tr_no4 (a0 : Int) (A : Option Addr) (c : Nat) (l : List S38) (x0 : Int) (x1 : ByteArray) (x2 x3 : Int) (x4 x5 : Bool) (x6 x7 x8 x9 : Int) (x10 : OV) (x11 x12 x13 x14 x15 x16 x17 : Int) (w : World) (d0 : (x0 != 4) = false) (d1 : (x15 != a0) = false) (d2 : decide (x17 < 1) = false) (d3 : decide (16 < x17) = false) (d4 : decide (x16 < 0) = true) : Calls Try.prog 15 #[.agg #[.int .u64 a0, .slice A l.length c], .agg #[.int .i64 x0, .string x1, .int .u32 x2, .int .u64 x3, .bool x4, .bool x5, .int .u64 x6, .int .u64 x7, .int .i64 x8, .int .u64 x9, .slice x10.A x10.n x10.c, .int .u64 x11, .int .u64 x12, .int .i64 x13, .int .u64 x14, .int .u64 x15, .int .i64 x16, .int .i64 x17]] w fun e w' => e = .returned (.tuple #[.agg #[.int .u64 a0, .slice A l.length c], .bool false]) ∧ Below w.heap.size w w' := by
  have hu54 := Try.underlying54
  go_enter Try.func15, Try.ntmps15
  go_upto_region 1 with (first | ((with_reducible refine gate_dst (N := 2) rfl ?_); refine box_event ?hg (N := 2) ?hd (cs := #[.int .u64 a0, .slice A l.length c]) (t := 54) ?hr ?_; (case hd => rfl); (case hg => rfl); (case hr => first | (go_simp; done) | (go_simp; rfl)); intro g1 hg w1 hbox hb; have HX1 := Aside0.mk hbox; have HB1 := Aside0.mk hb; have HG1 := Aside0.mk (show w.heap.size ≤ g1 from Nat.le_of_eq hg.symm); clear hg hbox hb) | ((with_reducible refine gate_dst (N := 3) rfl ?_); refine box_event ?hg (N := 3) ?hd (cs := #[.int .i64 x0, .string x1, .int .u32 x2, .int .u64 x3, .bool x4, .bool x5, .int .u64 x6, .int .u64 x7, .int .i64 x8, .int .u64 x9, .slice x10.A x10.n x10.c, .int .u64 x11, .int .u64 x12, .int .i64 x13, .int .u64 x14, .int .u64 x15, .int .i64 x16, .int .i64 x17]) (t := 38) ?hr ?_; (case hd => rfl); (case hg => rfl); (case hr => first | (go_simp; done) | (go_simp; rfl)); intro g2 hg w2 hbox hb; have HX2 := Aside0.mk hbox; have HX1' := Aside0.mk ((hb.block _ (blk_lt HX1.out)).trans HX1.out); have HB2 := Aside0.mk (below_step HB1.out hb); have HG2 := Aside0.mk (show w.heap.size ≤ g2 by rw [hg]; exact HB1.out.size); clear hg hbox hb))
  have R0 := Aside0.mk (show RG w (w2.alloc (.cells #[.int .u64 0, .slice none 0 0] 54)) g1 g2 w2.heap.size #[.int .u64 a0, .slice A l.length c] #[.int .i64 x0, .string x1, .int .u32 x2, .int .u64 x3, .bool x4, .bool x5, .int .u64 x6, .int .u64 x7, .int .i64 x8, .int .u64 x9, .slice x10.A x10.n x10.c, .int .u64 x11, .int .u64 x12, .int .i64 x13, .int .u64 x14, .int .u64 x15, .int .i64 x16, .int .i64 x17] #[.int .u64 0, .slice none 0 0] from ⟨below_alloc HB2.out _, ((below_alloc (Below.refl _ _) _).block _ (blk_lt HX1'.out)).trans HX1'.out, ((below_alloc (Below.refl _ _) _).block _ (blk_lt HX2.out)).trans HX2.out, heap_alloc_new w2 _, HG1.out, HG2.out, HB2.out.size, Nat.ne_of_lt (blk_lt HX1'.out)⟩)
  clear HX1 HX2 HX1' HB1 HB2
  obtain ⟨g3, hg3⟩ : ∃ g3, g3 = w2.heap.size := ⟨_, rfl⟩
  rw [← hg3] at R0 ⊢
  clear hg3
  generalize w2.alloc (.cells #[.int .u64 0, .slice none 0 0] 54) = w3 at R0 ⊢
  have p0 := cellAt (i := 0) R0.out.b1 rfl; have p1 := cellAt (i := 1) R0.out.b1 rfl
  have q0 := cellAt (i := 0) R0.out.b2 rfl; have q15 := cellAt (i := 15) R0.out.b2 rfl; have q16 := cellAt (i := 16) R0.out.b2 rfl; have q17 := cellAt (i := 17) R0.out.b2 rfl
  have f0 := blk_frozen R0.out.b3 0; have f1 := blk_frozen R0.out.b3 1; have r0 := cellAt (i := 0) R0.out.b3 rfl; have r1 := cellAt (i := 1) R0.out.b3 rfl
  go_wp2
  refine bodyPost_ret (results_ct rfl rfl rfl (run_loadVar_row (P := Try.prog) _ g3 54 54 _ (0, 0) _ ((R0.out.set3 0 (.int .u64 a0)).set3 1 (.slice A l.length c)).b3 Try.underlying54 rfl (by kernel_rfl))) rfl ?_
  exact ⟨rfl, ((R0.out.set3 0 (.int .u64 a0)).set3 1 (.slice A l.length c)).bel⟩
set_option maxHeartbeats 8000000 in
set_option maxRecDepth 100000 in
theorem tr_no5 (a0 : Int) (A : Option Addr) (c : Nat) (l : List S38) (x0 : Int) (x1 : ByteArray) (x2 x3 : Int) (x4 x5 : Bool) (x6 x7 x8 x9 : Int) (x10 : OV) (x11 x12 x13 x14 x15 x16 x17 : Int) (w : World) (d0 : (x0 != 4) = false) (d1 : (x15 != a0) = false) (d2 : decide (x17 < 1) = false) (d3 : decide (16 < x17) = false) (d4 : decide (x16 < 0) = false) (d5 : decide (x17 ≤ x16) = true) : Calls Try.prog 15 #[.agg #[.int .u64 a0, .slice A l.length c], .agg #[.int .i64 x0, .string x1, .int .u32 x2, .int .u64 x3, .bool x4, .bool x5, .int .u64 x6, .int .u64 x7, .int .i64 x8, .int .u64 x9, .slice x10.A x10.n x10.c, .int .u64 x11, .int .u64 x12, .int .i64 x13, .int .u64 x14, .int .u64 x15, .int .i64 x16, .int .i64 x17]] w fun e w' => e = .returned (.tuple #[.agg #[.int .u64 a0, .slice A l.length c], .bool false]) ∧ Below w.heap.size w w' := by
  have hu54 := Try.underlying54
  go_enter Try.func15, Try.ntmps15
  go_upto_region 1 with (first | ((with_reducible refine gate_dst (N := 2) rfl ?_); refine box_event ?hg (N := 2) ?hd (cs := #[.int .u64 a0, .slice A l.length c]) (t := 54) ?hr ?_; (case hd => rfl); (case hg => rfl); (case hr => first | (go_simp; done) | (go_simp; rfl)); intro g1 hg w1 hbox hb; have HX1 := Aside0.mk hbox; have HB1 := Aside0.mk hb; have HG1 := Aside0.mk (show w.heap.size ≤ g1 from Nat.le_of_eq hg.symm); clear hg hbox hb) | ((with_reducible refine gate_dst (N := 3) rfl ?_); refine box_event ?hg (N := 3) ?hd (cs := #[.int .i64 x0, .string x1, .int .u32 x2, .int .u64 x3, .bool x4, .bool x5, .int .u64 x6, .int .u64 x7, .int .i64 x8, .int .u64 x9, .slice x10.A x10.n x10.c, .int .u64 x11, .int .u64 x12, .int .i64 x13, .int .u64 x14, .int .u64 x15, .int .i64 x16, .int .i64 x17]) (t := 38) ?hr ?_; (case hd => rfl); (case hg => rfl); (case hr => first | (go_simp; done) | (go_simp; rfl)); intro g2 hg w2 hbox hb; have HX2 := Aside0.mk hbox; have HX1' := Aside0.mk ((hb.block _ (blk_lt HX1.out)).trans HX1.out); have HB2 := Aside0.mk (below_step HB1.out hb); have HG2 := Aside0.mk (show w.heap.size ≤ g2 by rw [hg]; exact HB1.out.size); clear hg hbox hb))
  have R0 := Aside0.mk (show RG w (w2.alloc (.cells #[.int .u64 0, .slice none 0 0] 54)) g1 g2 w2.heap.size #[.int .u64 a0, .slice A l.length c] #[.int .i64 x0, .string x1, .int .u32 x2, .int .u64 x3, .bool x4, .bool x5, .int .u64 x6, .int .u64 x7, .int .i64 x8, .int .u64 x9, .slice x10.A x10.n x10.c, .int .u64 x11, .int .u64 x12, .int .i64 x13, .int .u64 x14, .int .u64 x15, .int .i64 x16, .int .i64 x17] #[.int .u64 0, .slice none 0 0] from ⟨below_alloc HB2.out _, ((below_alloc (Below.refl _ _) _).block _ (blk_lt HX1'.out)).trans HX1'.out, ((below_alloc (Below.refl _ _) _).block _ (blk_lt HX2.out)).trans HX2.out, heap_alloc_new w2 _, HG1.out, HG2.out, HB2.out.size, Nat.ne_of_lt (blk_lt HX1'.out)⟩)
  clear HX1 HX2 HX1' HB1 HB2
  obtain ⟨g3, hg3⟩ : ∃ g3, g3 = w2.heap.size := ⟨_, rfl⟩
  rw [← hg3] at R0 ⊢
  clear hg3
  generalize w2.alloc (.cells #[.int .u64 0, .slice none 0 0] 54) = w3 at R0 ⊢
  have p0 := cellAt (i := 0) R0.out.b1 rfl; have p1 := cellAt (i := 1) R0.out.b1 rfl
  have q0 := cellAt (i := 0) R0.out.b2 rfl; have q15 := cellAt (i := 15) R0.out.b2 rfl; have q16 := cellAt (i := 16) R0.out.b2 rfl; have q17 := cellAt (i := 17) R0.out.b2 rfl
  have f0 := blk_frozen R0.out.b3 0; have f1 := blk_frozen R0.out.b3 1; have r0 := cellAt (i := 0) R0.out.b3 rfl; have r1 := cellAt (i := 1) R0.out.b3 rfl
  go_wp2
  refine bodyPost_ret (results_ct rfl rfl rfl (run_loadVar_row (P := Try.prog) _ g3 54 54 _ (0, 0) _ ((R0.out.set3 0 (.int .u64 a0)).set3 1 (.slice A l.length c)).b3 Try.underlying54 rfl (by kernel_rfl))) rfl ?_
  exact ⟨rfl, ((R0.out.set3 0 (.int .u64 a0)).set3 1 (.slice A l.length c)).bel⟩
theorem cell0_17 {w W : World} {A : Option Addr} {l : List S38} (h : Kd.C k38 w A l.length l) (hb : Below w.heap.size w W) (hl : 0 < l.length) : ∃ ad, A = some ad ∧ W.cell? ⟨ad.block, ad.off + 17, none⟩ = some (.int .i64 (rd_T38 l 0).f10) := by
  obtain ⟨ad, c, e, _, hK, hc0⟩ := Kd.C_get h z38 0 (Int.le_refl _) (by omega)
  have hc : ∀ j u, c[j]? = some u → w.cell? (ad.add ((0 : Int).toNat * 18 + j)) = some u := hc0
  obtain rfl := k38_open hK
  have h1 := hc 17 _ rfl
  refine ⟨ad, e, ?_⟩
  have h2 := pw_cell_below hb h1
  have e2 : ad.add ((0 : Int).toNat * 18 + 17) = ⟨ad.block, ad.off + 17, none⟩ := by
    rw [show (0 : Int).toNat * 18 + 17 = 0 + 17 from rfl, add_field _ _ 17 (by omega), Addr.add_zero']
  rw [← e2]
  exact h2
set_option maxHeartbeats 8000000 in
set_option maxRecDepth 100000 in
theorem tr_no6 (a0 : Int) (A : Option Addr) (c : Nat) (l : List S38) (x0 : Int) (x1 : ByteArray) (x2 x3 : Int) (x4 x5 : Bool) (x6 x7 x8 x9 : Int) (x10 : OV) (x11 x12 x13 x14 x15 x16 x17 : Int) (w : World) (d0 : (x0 != 4) = false) (d1 : (x15 != a0) = false) (d2 : decide (x17 < 1) = false) (d3 : decide (16 < x17) = false) (d4 : decide (x16 < 0) = false) (d5 : decide (x17 ≤ x16) = false) (hC : Kd.C k38 w A l.length l) (hl : 0 < l.length) (hne : (rd_T38 l 0).f10 ≠ x17) : Calls Try.prog 15 #[.agg #[.int .u64 a0, .slice A l.length c], .agg #[.int .i64 x0, .string x1, .int .u32 x2, .int .u64 x3, .bool x4, .bool x5, .int .u64 x6, .int .u64 x7, .int .i64 x8, .int .u64 x9, .slice x10.A x10.n x10.c, .int .u64 x11, .int .u64 x12, .int .i64 x13, .int .u64 x14, .int .u64 x15, .int .i64 x16, .int .i64 x17]] w fun e w' => e = .returned (.tuple #[.agg #[.int .u64 a0, .slice A l.length c], .bool false]) ∧ Below w.heap.size w w' := by
  have HC := Aside0.mk hC
  have HL := Aside0.mk hl
  obtain ⟨t0, ht0⟩ : ∃ t, t = (rd_T38 l 0).f10 := ⟨_, rfl⟩
  rw [← ht0] at hne
  have e1 : (t0 != x17) = true := bne_iff_ne.mpr hne
  have HT := Aside0.mk ht0
  clear hC hne ht0
  have hu54 := Try.underlying54
  go_enter Try.func15, Try.ntmps15
  go_upto_region 1 with (first | ((with_reducible refine gate_dst (N := 2) rfl ?_); refine box_event ?hg (N := 2) ?hd (cs := #[.int .u64 a0, .slice A l.length c]) (t := 54) ?hr ?_; (case hd => rfl); (case hg => rfl); (case hr => first | (go_simp; done) | (go_simp; rfl)); intro g1 hg w1 hbox hb; have HX1 := Aside0.mk hbox; have HB1 := Aside0.mk hb; have HG1 := Aside0.mk (show w.heap.size ≤ g1 from Nat.le_of_eq hg.symm); clear hg hbox hb) | ((with_reducible refine gate_dst (N := 3) rfl ?_); refine box_event ?hg (N := 3) ?hd (cs := #[.int .i64 x0, .string x1, .int .u32 x2, .int .u64 x3, .bool x4, .bool x5, .int .u64 x6, .int .u64 x7, .int .i64 x8, .int .u64 x9, .slice x10.A x10.n x10.c, .int .u64 x11, .int .u64 x12, .int .i64 x13, .int .u64 x14, .int .u64 x15, .int .i64 x16, .int .i64 x17]) (t := 38) ?hr ?_; (case hd => rfl); (case hg => rfl); (case hr => first | (go_simp; done) | (go_simp; rfl)); intro g2 hg w2 hbox hb; have HX2 := Aside0.mk hbox; have HX1' := Aside0.mk ((hb.block _ (blk_lt HX1.out)).trans HX1.out); have HB2 := Aside0.mk (below_step HB1.out hb); have HG2 := Aside0.mk (show w.heap.size ≤ g2 by rw [hg]; exact HB1.out.size); clear hg hbox hb))
  have R0 := Aside0.mk (show RG w (w2.alloc (.cells #[.int .u64 0, .slice none 0 0] 54)) g1 g2 w2.heap.size #[.int .u64 a0, .slice A l.length c] #[.int .i64 x0, .string x1, .int .u32 x2, .int .u64 x3, .bool x4, .bool x5, .int .u64 x6, .int .u64 x7, .int .i64 x8, .int .u64 x9, .slice x10.A x10.n x10.c, .int .u64 x11, .int .u64 x12, .int .i64 x13, .int .u64 x14, .int .u64 x15, .int .i64 x16, .int .i64 x17] #[.int .u64 0, .slice none 0 0] from ⟨below_alloc HB2.out _, ((below_alloc (Below.refl _ _) _).block _ (blk_lt HX1'.out)).trans HX1'.out, ((below_alloc (Below.refl _ _) _).block _ (blk_lt HX2.out)).trans HX2.out, heap_alloc_new w2 _, HG1.out, HG2.out, HB2.out.size, Nat.ne_of_lt (blk_lt HX1'.out)⟩)
  clear HX1 HX2 HX1' HB1 HB2
  obtain ⟨g3, hg3⟩ : ∃ g3, g3 = w2.heap.size := ⟨_, rfl⟩
  rw [← hg3] at R0 ⊢
  clear hg3
  generalize w2.alloc (.cells #[.int .u64 0, .slice none 0 0] 54) = w3 at R0 ⊢
  have p0 := cellAt (i := 0) R0.out.b1 rfl; have p1 := cellAt (i := 1) R0.out.b1 rfl
  have q0 := cellAt (i := 0) R0.out.b2 rfl; have q15 := cellAt (i := 15) R0.out.b2 rfl; have q16 := cellAt (i := 16) R0.out.b2 rfl; have q17 := cellAt (i := 17) R0.out.b2 rfl
  go_wp2
  obtain ⟨ad, hA, hq⟩ := cell0_17 HC.out R0.out.bel HL.out
  rw [← HT.out] at hq
  cases hA
  have HT0 := Aside0.mk hq
  clear hq
  refine start_ (n := 14) (S := fun w' : World => w'.cell? ⟨g1, 1, none⟩ = some (.slice (some ad) l.length c) ∧ w'.cell? ⟨g2, 17, none⟩ = some (.int .i64 x17) ∧ w'.cell? ⟨ad.block, ad.off + 17, none⟩ = some (.int .i64 t0)) (ds := []) #[false, false, false, false, false, false, false, false, false, false, false, false, false, false] (by kernel_rfl) rfl rfl ⟨cellAt (i := 1) R0.out.b1 rfl, cellAt (i := 17) R0.out.b2 rfl, HT0.out⟩ (fun hHeld => ?_)
  have R1 := Aside0.mk (R0.out.below (W1 := w3.drew) (below_drew (Below.refl _ _)))
  generalize w3.drew = w4 at R1 hHeld ⊢
  refine pure_ (i := 0) (N := some 43) (v := ?_) (a' := ?_) #[true, false, false, false, false, false, false, false, false, false, false, false, false, false] rfl rfl (by kernel_rfl) (fun _ _ _ h => h) (Or.inl ⟨by rfl, ?_⟩) ?_ ?_
  rotate_left
  · intro w'
    go_simp
    with_reducible rfl
  rotate_left
  · simp only [Act.put, List.setIfInBounds_toArray, List.set_cons_zero, List.set_cons_succ, i64_w, i32_w]
    rfl
  refine take_ (i := 1) (N := some 44) (v := ?_) (a' := ?_) #[true, true, false, false, false, false, false, false, false, false, false, false, false, false] rfl rfl (by kernel_rfl) (fun _ _ _ h => h) (Or.inl ⟨by rfl, ?_⟩) hHeld ?_ ?_
  rotate_left
  · rintro w' ⟨s1, s2, s3⟩
    go_simp
    with_reducible rfl
  rotate_left
  · simp only [Act.put, List.setIfInBounds_toArray, List.set_cons_zero, List.set_cons_succ, i64_w, i32_w]
    rfl
  refine pure_ (i := 2) (N := some 45) (v := ?_) (a' := ?_) #[true, true, true, false, false, false, false, false, false, false, false, false, false, false] rfl rfl (by kernel_rfl) (fun _ _ _ h => h) (Or.inl ⟨by rfl, ?_⟩) ?_ ?_
  rotate_left
  · intro w'
    go_simp
    with_reducible rfl
  rotate_left
  · simp only [Act.put, List.setIfInBounds_toArray, List.set_cons_zero, List.set_cons_succ, i64_w, i32_w]
    rfl
  refine pure_ (i := 3) (N := some 46) (v := ?_) (a' := ?_) #[true, true, true, true, false, false, false, false, false, false, false, false, false, false] rfl rfl (by kernel_rfl) (fun _ _ _ h => h) (Or.inl ⟨by rfl, ?_⟩) ?_ ?_
  rotate_left
  · intro w'
    go_simp
    with_reducible rfl
  rotate_left
  · simp only [Act.put, List.setIfInBounds_toArray, List.set_cons_zero, List.set_cons_succ, i64_w, i32_w]
    rfl
  refine pure_ (i := 4) (N := some 47) (v := ?_) (a' := ?_) #[true, true, true, true, true, false, false, false, false, false, false, false, false, false] rfl rfl (by kernel_rfl) (fun _ _ _ h => h) (Or.inl ⟨by rfl, ?_⟩) ?_ ?_
  rotate_left
  · intro w'
    go_simp
    with_reducible rfl
  rotate_left
  · simp only [Act.put, List.setIfInBounds_toArray, List.set_cons_zero, List.set_cons_succ, i64_w, i32_w]
    rfl
  refine pure_ (i := 5) (N := some 48) (v := ?_) (a' := ?_) #[true, true, true, true, true, true, false, false, false, false, false, false, false, false] rfl rfl (by kernel_rfl) (fun _ _ _ h => h) (Or.inl ⟨by rfl, ?_⟩) ?_ ?_
  rotate_left
  · intro w'
    go_simp
    with_reducible rfl
  rotate_left
  · simp only [Act.put, List.setIfInBounds_toArray, List.set_cons_zero, List.set_cons_succ, i64_w, i32_w]
    rfl
  refine take_ (i := 6) (N := some 49) (v := ?_) (a' := ?_) #[true, true, true, true, true, true, true, false, false, false, false, false, false, false] rfl rfl (by kernel_rfl) (fun _ _ _ h => h) (Or.inl ⟨by rfl, ?_⟩) hHeld ?_ ?_
  rotate_left
  · rintro w' ⟨s1, s2, s3⟩
    go_simp
    with_reducible rfl
  rotate_left
  · simp only [Act.put, List.setIfInBounds_toArray, List.set_cons_zero, List.set_cons_succ, i64_w, i32_w]
    rfl
  refine pure_ (i := 7) (N := some 50) (v := ?_) (a' := ?_) #[true, true, true, true, true, true, true, true, false, false, false, false, false, false] rfl rfl (by kernel_rfl) (fun _ _ _ h => h) (Or.inl ⟨by rfl, ?_⟩) ?_ ?_
  rotate_left
  · intro w'
    go_simp
    with_reducible rfl
  rotate_left
  · simp only [Act.put, List.setIfInBounds_toArray, List.set_cons_zero, List.set_cons_succ, i64_w, i32_w]
    rfl
  refine pure_ (i := 8) (N := some 51) (v := ?_) (a' := ?_) #[true, true, true, true, true, true, true, true, true, false, false, false, false, false] rfl rfl (by kernel_rfl) (fun _ _ _ h => h) (Or.inl ⟨by rfl, ?_⟩) ?_ ?_
  rotate_left
  · intro w'
    go_simp
    with_reducible rfl
  rotate_left
  · simp only [Act.put, List.setIfInBounds_toArray, List.set_cons_zero, List.set_cons_succ, i64_w, i32_w]
    rfl
  refine take_ (i := 9) (N := some 52) (v := ?_) (a' := ?_) #[true, true, true, true, true, true, true, true, true, true, false, false, false, false] rfl rfl (by kernel_rfl) (fun _ _ _ h => h) (Or.inl ⟨by rfl, ?_⟩) hHeld ?_ ?_
  rotate_left
  · rintro w' ⟨s1, s2, s3⟩
    go_simp
    with_reducible rfl
  rotate_left
  · simp only [Act.put, List.setIfInBounds_toArray, List.set_cons_zero, List.set_cons_succ, i64_w, i32_w]
    rfl
  refine pure_ (i := 10) (N := some 53) (v := ?_) (a' := ?_) #[true, true, true, true, true, true, true, true, true, true, true, false, false, false] rfl rfl (by kernel_rfl) (fun _ _ _ h => h) (Or.inl ⟨by rfl, ?_⟩) ?_ ?_
  rotate_left
  · intro w'
    go_simp
    with_reducible rfl
  rotate_left
  · simp only [Act.put, List.setIfInBounds_toArray, List.set_cons_zero, List.set_cons_succ, i64_w, i32_w]
    rfl
  refine take_ (i := 11) (N := some 54) (v := ?_) (a' := ?_) #[true, true, true, true, true, true, true, true, true, true, true, true, false, false] rfl rfl (by kernel_rfl) (fun _ _ _ h => h) (Or.inl ⟨by rfl, ?_⟩) hHeld ?_ ?_
  rotate_left
  · rintro w' ⟨s1, s2, s3⟩
    go_simp
    with_reducible rfl
  rotate_left
  · simp only [Act.put, List.setIfInBounds_toArray, List.set_cons_zero, List.set_cons_succ, i64_w, i32_w]
    rfl
  refine pure_ (i := 12) (N := some 55) (v := ?_) (a' := ?_) #[true, true, true, true, true, true, true, true, true, true, true, true, true, false] rfl rfl (by kernel_rfl) (fun _ _ _ h => h) (Or.inl ⟨by rfl, ?_⟩) ?_ ?_
  rotate_left
  · intro w'
    go_simp
    with_reducible rfl
  rotate_left
  · simp only [Act.put, List.setIfInBounds_toArray, List.set_cons_zero, List.set_cons_succ, i64_w, i32_w]
    rfl
  refine pure_ (i := 13) (N := some 56) (v := ?_) (a' := ?_) #[true, true, true, true, true, true, true, true, true, true, true, true, true, true] rfl rfl (by kernel_rfl) (fun _ _ _ h => h) (Or.inl ⟨by rfl, ?_⟩) ?_ ?_
  rotate_left
  · intro w'
    go_simp
    with_reducible rfl
  rotate_left
  · simp only [Act.put, List.setIfInBounds_toArray, List.set_cons_zero, List.set_cons_succ, i64_w, i32_w]
    rfl
  refine done_ (by kernel_rfl) ?_
  have p0 := cellAt (i := 0) R1.out.b1 rfl; have p1 := cellAt (i := 1) R1.out.b1 rfl; have f0 := blk_frozen R1.out.b3 0; have f1 := blk_frozen R1.out.b3 1; have r0 := cellAt (i := 0) R1.out.b3 rfl; have r1 := cellAt (i := 1) R1.out.b3 rfl
  go_wp2
  refine bodyPost_ret (results_ct rfl rfl rfl (run_loadVar_row (P := Try.prog) _ g3 54 54 _ (0, 0) _ ((R1.out.set3 0 (.int .u64 a0)).set3 1 (.slice (some ad) l.length c)).b3 Try.underlying54 rfl (by kernel_rfl))) rfl ?_
  exact ⟨rfl, ((R1.out.set3 0 (.int .u64 a0)).set3 1 (.slice (some ad) l.length c)).bel⟩
theorem exec_load {P : Program} {W : World} {ev : Operand → Value} {o : Oper} (x : Operand) (t : TypeId) (ho : o.op = .load t x) {p : Addr} (hx : ev x = .pointer (some p)) {v : Value}
    (hv : (Instr.loadAt t (.pointer (some p))).run P W = .ok v W) : (execOp ev o).run P W = .ok (.value v) W := by
  simp only [execOp, ho, hx]
  generalize Instr.loadAt t (.pointer (some p)) = m at *
  go_simp
theorem load38b {W : World} {b : Nat} {v0 v1 v2 v3 v4 v5 v6 v7 v8 v9 v10 v11 v12 v13 v14 v15 v16 v17 : Value} (h : W.heap[b]? = some (.cells #[v0, v1, v2, v3, v4, v5, v6, v7, v8, v9, v10, v11, v12, v13, v14, v15, v16, v17] 38 (0, 0))) :
    (Instr.loadAt 38 (.pointer (some ⟨b, 0, none⟩))).run Try.prog W = .ok (.agg #[v0, v1, v2, v3, v4, v5, v6, v7, v8, v9, v10, v11, v12, v13, v14, v15, v16, v17]) W := by
  refine load_agg [v0, v1, v2, v3, v4, v5, v6, v7, v8, v9, v10, v11, v12, v13, v14, v15, v16, v17] (by kernel_rfl) (by kernel_rfl) (fun j u hj => ?_)
  rw [add_plain]
  refine cellAt h ?_
  simpa using hj
theorem C_of_blk38 {W : World} {k : Nat} (x : S38) (h : W.heap[k]? = some (.cells #[.int .i64 x.f0, .string x.f1, .int .u32 x.f2, .int .u64 x.f3, .bool x.f4, .bool x.f5, .int .u64 x.f6.f0.f0, .int .u64 x.f6.f0.f1.f0, .int .i64 x.f6.f0.f1.f1, .int .u64 x.f6.f0.f2, .slice x.f6.f1.A x.f6.f1.n x.f6.f1.c, .int .u64 x.f7.f0, .int .u64 x.f7.f1.f0, .int .i64 x.f7.f1.f1, .int .u64 x.f7.f2, .int .u64 x.f8, .int .i64 x.f9, .int .i64 x.f10] 38 (0, 0))) : Kd.C k38 W (some ⟨k, 0, none⟩) 1 [x] :=
  ⟨rfl, by decide, fun _ => ⟨⟨k, 0, none⟩, rfl, fun j p hj => by
    cases j with
    | succ j => simp at hj
    | zero =>
      simp only [List.getElem?_cons_zero, Option.some.injEq] at hj
      subst hj
      refine ⟨_, rfl, k38_mk W x, fun i u hu => ?_⟩
      rw [Nat.zero_mul, Nat.zero_add, add_plain]
      exact cellAt h (by simpa using hu)⟩⟩
theorem own_lt {e base : Nat} {ok : Nat → Prop} {W : World} {v : Value} {xs : List S38} (h : Kd.R k38 e W base ok v xs) : ∀ k, v.ownBlock = some k → k < W.heap.size := by
  obtain ⟨_, inner, ho, _⟩ := h
  rcases ho.2 with ⟨hv, _⟩ | ⟨g, cap, cur, hv, _, hg, _⟩
  · intro k hk; rw [hv] at hk; cases hk
  · intro k hk
    rw [hv] at hk
    simp only [Value.ownBlock, Option.some.injEq] at hk
    subst hk
    exact blk_lt hg
set_option maxHeartbeats 8000000 in
set_option maxRecDepth 100000 in
theorem tr_found (a0 : Int) (A : Option Addr) (c : Nat) (l : List S38) (x0 : Int) (x1 : ByteArray) (x2 x3 : Int) (x4 x5 : Bool) (x6 x7 x8 x9 : Int) (x10 : OV) (x11 x12 x13 x14 x15 x16 x17 : Int) (w : World) (d0 : (x0 != 4) = false) (d1 : (x15 != a0) = false) (d2 : decide (x17 < 1) = false) (d3 : decide (16 < x17) = false) (d4 : decide (x16 < 0) = false) (d5 : decide (x17 ≤ x16) = false) (hC : Kd.C k38 w A l.length l) (hcc : l.length ≤ c) (hl : 0 < l.length) (hne : (rd_T38 l 0).f10 = x17) (k : Nat) (z : ByteArray) (hf : consortref23_find.f k a0 l x16 = some (z, true)) : Calls Try.prog 15 #[.agg #[.int .u64 a0, .slice A l.length c], .agg #[.int .i64 x0, .string x1, .int .u32 x2, .int .u64 x3, .bool x4, .bool x5, .int .u64 x6, .int .u64 x7, .int .i64 x8, .int .u64 x9, .slice x10.A x10.n x10.c, .int .u64 x11, .int .u64 x12, .int .i64 x13, .int .u64 x14, .int .u64 x15, .int .i64 x16, .int .i64 x17]] w fun e w' => e = .returned (.tuple #[.agg #[.int .u64 a0, .slice A l.length c], .bool false]) ∧ Below w.heap.size w w' := by
  have HC := Aside0.mk hC
  have HL := Aside0.mk hl
  obtain ⟨t0, ht0⟩ : ∃ t, t = (rd_T38 l 0).f10 := ⟨_, rfl⟩
  rw [← ht0] at hne
  have e1 : (t0 != x17) = false := by rw [hne]; exact bne_self_eq_false _
  have HT := Aside0.mk ht0
  clear hC hne ht0
  have HCC := Aside0.mk hcc
  have HF := Aside0.mk hf
  clear hcc hf
  have hu54 := Try.underlying54
  go_enter Try.func15, Try.ntmps15
  go_upto_region 1 with (first | ((with_reducible refine gate_dst (N := 2) rfl ?_); refine box_event ?hg (N := 2) ?hd (cs := #[.int .u64 a0, .slice A l.length c]) (t := 54) ?hr ?_; (case hd => rfl); (case hg => rfl); (case hr => first | (go_simp; done) | (go_simp; rfl)); intro g1 hg w1 hbox hb; have HX1 := Aside0.mk hbox; have HB1 := Aside0.mk hb; have HG1 := Aside0.mk (show w.heap.size ≤ g1 from Nat.le_of_eq hg.symm); clear hg hbox hb) | ((with_reducible refine gate_dst (N := 3) rfl ?_); refine box_event ?hg (N := 3) ?hd (cs := #[.int .i64 x0, .string x1, .int .u32 x2, .int .u64 x3, .bool x4, .bool x5, .int .u64 x6, .int .u64 x7, .int .i64 x8, .int .u64 x9, .slice x10.A x10.n x10.c, .int .u64 x11, .int .u64 x12, .int .i64 x13, .int .u64 x14, .int .u64 x15, .int .i64 x16, .int .i64 x17]) (t := 38) ?hr ?_; (case hd => rfl); (case hg => rfl); (case hr => first | (go_simp; done) | (go_simp; rfl)); intro g2 hg w2 hbox hb; have HX2 := Aside0.mk hbox; have HX1' := Aside0.mk ((hb.block _ (blk_lt HX1.out)).trans HX1.out); have HB2 := Aside0.mk (below_step HB1.out hb); have HG2 := Aside0.mk (show w.heap.size ≤ g2 by rw [hg]; exact HB1.out.size); clear hg hbox hb))
  have R0 := Aside0.mk (show RG w (w2.alloc (.cells #[.int .u64 0, .slice none 0 0] 54)) g1 g2 w2.heap.size #[.int .u64 a0, .slice A l.length c] #[.int .i64 x0, .string x1, .int .u32 x2, .int .u64 x3, .bool x4, .bool x5, .int .u64 x6, .int .u64 x7, .int .i64 x8, .int .u64 x9, .slice x10.A x10.n x10.c, .int .u64 x11, .int .u64 x12, .int .i64 x13, .int .u64 x14, .int .u64 x15, .int .i64 x16, .int .i64 x17] #[.int .u64 0, .slice none 0 0] from ⟨below_alloc HB2.out _, ((below_alloc (Below.refl _ _) _).block _ (blk_lt HX1'.out)).trans HX1'.out, ((below_alloc (Below.refl _ _) _).block _ (blk_lt HX2.out)).trans HX2.out, heap_alloc_new w2 _, HG1.out, HG2.out, HB2.out.size, Nat.ne_of_lt (blk_lt HX1'.out)⟩)
  clear HX1 HX2 HX1' HB1 HB2
  obtain ⟨g3, hg3⟩ : ∃ g3, g3 = w2.heap.size := ⟨_, rfl⟩
  rw [← hg3] at R0 ⊢
  clear hg3
  generalize w2.alloc (.cells #[.int .u64 0, .slice none 0 0] 54) = w3 at R0 ⊢
  have p0 := cellAt (i := 0) R0.out.b1 rfl; have p1 := cellAt (i := 1) R0.out.b1 rfl
  have q0 := cellAt (i := 0) R0.out.b2 rfl; have q15 := cellAt (i := 15) R0.out.b2 rfl; have q16 := cellAt (i := 16) R0.out.b2 rfl; have q17 := cellAt (i := 17) R0.out.b2 rfl
  go_wp2
  obtain ⟨ad, hA, hq⟩ := cell0_17 HC.out R0.out.bel HL.out
  rw [← HT.out] at hq
  cases hA
  have HT0 := Aside0.mk hq
  clear hq
  refine start_ (n := 14) (S := fun w' : World => w'.cell? ⟨g1, 1, none⟩ = some (.slice (some ad) l.length c) ∧ w'.cell? ⟨g2, 17, none⟩ = some (.int .i64 x17) ∧ w'.cell? ⟨ad.block, ad.off + 17, none⟩ = some (.int .i64 t0)) (ds := []) #[false, false, false, false, false, false, false, false, false, false, false, false, false, false] (by kernel_rfl) rfl rfl ⟨cellAt (i := 1) R0.out.b1 rfl, cellAt (i := 17) R0.out.b2 rfl, HT0.out⟩ (fun hHeld => ?_)
  have R1 := Aside0.mk (R0.out.below (W1 := w3.drew) (below_drew (Below.refl _ _)))
  generalize w3.drew = w4 at R1 hHeld ⊢
  refine pure_ (i := 0) (N := some 43) (v := ?_) (a' := ?_) #[true, false, false, false, false, false, false, false, false, false, false, false, false, false] rfl rfl (by kernel_rfl) (fun _ _ _ h => h) (Or.inl ⟨by rfl, ?_⟩) ?_ ?_
  rotate_left
  · intro w'
    go_simp
    with_reducible rfl
  rotate_left
  · simp only [Act.put, List.setIfInBounds_toArray, List.set_cons_zero, List.set_cons_succ, i64_w, i32_w]
    rfl
  refine take_ (i := 1) (N := some 44) (v := ?_) (a' := ?_) #[true, true, false, false, false, false, false, false, false, false, false, false, false, false] rfl rfl (by kernel_rfl) (fun _ _ _ h => h) (Or.inl ⟨by rfl, ?_⟩) hHeld ?_ ?_
  rotate_left
  · rintro w' ⟨s1, s2, s3⟩
    go_simp
    with_reducible rfl
  rotate_left
  · simp only [Act.put, List.setIfInBounds_toArray, List.set_cons_zero, List.set_cons_succ, i64_w, i32_w]
    rfl
  refine pure_ (i := 2) (N := some 45) (v := ?_) (a' := ?_) #[true, true, true, false, false, false, false, false, false, false, false, false, false, false] rfl rfl (by kernel_rfl) (fun _ _ _ h => h) (Or.inl ⟨by rfl, ?_⟩) ?_ ?_
  rotate_left
  · intro w'
    go_simp
    with_reducible rfl
  rotate_left
  · simp only [Act.put, List.setIfInBounds_toArray, List.set_cons_zero, List.set_cons_succ, i64_w, i32_w]
    rfl
  refine pure_ (i := 3) (N := some 46) (v := ?_) (a' := ?_) #[true, true, true, true, false, false, false, false, false, false, false, false, false, false] rfl rfl (by kernel_rfl) (fun _ _ _ h => h) (Or.inl ⟨by rfl, ?_⟩) ?_ ?_
  rotate_left
  · intro w'
    go_simp
    with_reducible rfl
  rotate_left
  · simp only [Act.put, List.setIfInBounds_toArray, List.set_cons_zero, List.set_cons_succ, i64_w, i32_w]
    rfl
  refine pure_ (i := 4) (N := some 47) (v := ?_) (a' := ?_) #[true, true, true, true, true, false, false, false, false, false, false, false, false, false] rfl rfl (by kernel_rfl) (fun _ _ _ h => h) (Or.inl ⟨by rfl, ?_⟩) ?_ ?_
  rotate_left
  · intro w'
    go_simp
    with_reducible rfl
  rotate_left
  · simp only [Act.put, List.setIfInBounds_toArray, List.set_cons_zero, List.set_cons_succ, i64_w, i32_w]
    rfl
  refine pure_ (i := 5) (N := some 48) (v := ?_) (a' := ?_) #[true, true, true, true, true, true, false, false, false, false, false, false, false, false] rfl rfl (by kernel_rfl) (fun _ _ _ h => h) (Or.inl ⟨by rfl, ?_⟩) ?_ ?_
  rotate_left
  · intro w'
    go_simp
    with_reducible rfl
  rotate_left
  · simp only [Act.put, List.setIfInBounds_toArray, List.set_cons_zero, List.set_cons_succ, i64_w, i32_w]
    rfl
  refine take_ (i := 6) (N := some 49) (v := ?_) (a' := ?_) #[true, true, true, true, true, true, true, false, false, false, false, false, false, false] rfl rfl (by kernel_rfl) (fun _ _ _ h => h) (Or.inl ⟨by rfl, ?_⟩) hHeld ?_ ?_
  rotate_left
  · rintro w' ⟨s1, s2, s3⟩
    go_simp
    with_reducible rfl
  rotate_left
  · simp only [Act.put, List.setIfInBounds_toArray, List.set_cons_zero, List.set_cons_succ, i64_w, i32_w]
    rfl
  refine pure_ (i := 7) (N := some 50) (v := ?_) (a' := ?_) #[true, true, true, true, true, true, true, true, false, false, false, false, false, false] rfl rfl (by kernel_rfl) (fun _ _ _ h => h) (Or.inl ⟨by rfl, ?_⟩) ?_ ?_
  rotate_left
  · intro w'
    go_simp
    with_reducible rfl
  rotate_left
  · simp only [Act.put, List.setIfInBounds_toArray, List.set_cons_zero, List.set_cons_succ, i64_w, i32_w]
    rfl
  refine pure_ (i := 8) (N := some 51) (v := ?_) (a' := ?_) #[true, true, true, true, true, true, true, true, true, false, false, false, false, false] rfl rfl (by kernel_rfl) (fun _ _ _ h => h) (Or.inl ⟨by rfl, ?_⟩) ?_ ?_
  rotate_left
  · intro w'
    go_simp
    with_reducible rfl
  rotate_left
  · simp only [Act.put, List.setIfInBounds_toArray, List.set_cons_zero, List.set_cons_succ, i64_w, i32_w]
    rfl
  refine take_ (i := 9) (N := some 52) (v := ?_) (a' := ?_) #[true, true, true, true, true, true, true, true, true, true, false, false, false, false] rfl rfl (by kernel_rfl) (fun _ _ _ h => h) (Or.inl ⟨by rfl, ?_⟩) hHeld ?_ ?_
  rotate_left
  · rintro w' ⟨s1, s2, s3⟩
    go_simp
    with_reducible rfl
  rotate_left
  · simp only [Act.put, List.setIfInBounds_toArray, List.set_cons_zero, List.set_cons_succ, i64_w, i32_w]
    rfl
  refine pure_ (i := 10) (N := some 53) (v := ?_) (a' := ?_) #[true, true, true, true, true, true, true, true, true, true, true, false, false, false] rfl rfl (by kernel_rfl) (fun _ _ _ h => h) (Or.inl ⟨by rfl, ?_⟩) ?_ ?_
  rotate_left
  · intro w'
    go_simp
    with_reducible rfl
  rotate_left
  · simp only [Act.put, List.setIfInBounds_toArray, List.set_cons_zero, List.set_cons_succ, i64_w, i32_w]
    rfl
  refine take_ (i := 11) (N := some 54) (v := ?_) (a' := ?_) #[true, true, true, true, true, true, true, true, true, true, true, true, false, false] rfl rfl (by kernel_rfl) (fun _ _ _ h => h) (Or.inl ⟨by rfl, ?_⟩) hHeld ?_ ?_
  rotate_left
  · rintro w' ⟨s1, s2, s3⟩
    go_simp
    with_reducible rfl
  rotate_left
  · simp only [Act.put, List.setIfInBounds_toArray, List.set_cons_zero, List.set_cons_succ, i64_w, i32_w]
    rfl
  refine pure_ (i := 12) (N := some 55) (v := ?_) (a' := ?_) #[true, true, true, true, true, true, true, true, true, true, true, true, true, false] rfl rfl (by kernel_rfl) (fun _ _ _ h => h) (Or.inl ⟨by rfl, ?_⟩) ?_ ?_
  rotate_left
  · intro w'
    go_simp
    with_reducible rfl
  rotate_left
  · simp only [Act.put, List.setIfInBounds_toArray, List.set_cons_zero, List.set_cons_succ, i64_w, i32_w]
    rfl
  refine pure_ (i := 13) (N := some 56) (v := ?_) (a' := ?_) #[true, true, true, true, true, true, true, true, true, true, true, true, true, true] rfl rfl (by kernel_rfl) (fun _ _ _ h => h) (Or.inl ⟨by rfl, ?_⟩) ?_ ?_
  rotate_left
  · intro w'
    go_simp
    with_reducible rfl
  rotate_left
  · simp only [Act.put, List.setIfInBounds_toArray, List.set_cons_zero, List.set_cons_succ, i64_w, i32_w]
    rfl
  refine done_ (by kernel_rfl) ?_
  have p0 := cellAt (i := 0) R1.out.b1 rfl; have p1 := cellAt (i := 1) R1.out.b1 rfl; have q16 := cellAt (i := 16) R1.out.b2 rfl
  go_wp2_with (first | (go_at_call 20; (with_reducible refine (consortref23_find.calls k a0 (some ad) c l x16 z true _ (C38_below HC.out R1.out.bel) HCC.out HF.out).mono ?_); rintro _ w5 ⟨rfl, hb⟩; have R2 := Aside0.mk (R1.out.below hb); clear p0 p1; have p0 := cellAt (i := 0) R2.out.b1 rfl; have p1 := cellAt (i := 1) R2.out.b1 rfl; have f0 := blk_frozen R2.out.b3 0; have f1 := blk_frozen R2.out.b3 1; have r0 := cellAt (i := 0) R2.out.b3 rfl; have r1 := cellAt (i := 1) R2.out.b3 rfl; clear hb))
  refine bodyPost_ret (results_ct rfl rfl rfl (run_loadVar_row (P := Try.prog) _ g3 54 54 _ (0, 0) _ ((R2.out.set3 0 (.int .u64 a0)).set3 1 (.slice (some ad) l.length c)).b3 Try.underlying54 rfl (by kernel_rfl))) rfl ?_
  exact ⟨rfl, ((R2.out.set3 0 (.int .u64 a0)).set3 1 (.slice (some ad) l.length c)).bel⟩
set_option maxHeartbeats 8000000 in
set_option maxRecDepth 100000 in
theorem tr_new0 (a0 : Int) (A : Option Addr) (c : Nat) (x0 : Int) (x1 : ByteArray) (x2 x3 : Int) (x4 x5 : Bool) (x6 x7 x8 x9 : Int) (x10 : OV) (x11 x12 x13 x14 x15 x16 x17 : Int) (w : World) (d0 : (x0 != 4) = false) (d1 : (x15 != a0) = false) (d2 : decide (x17 < 1) = false) (d3 : decide (16 < x17) = false) (d4 : decide (x16 < 0) = false) (d5 : decide (x17 ≤ x16) = false) (M : List S38) (hM : M = [(⟨x0, x1, x2, x3, x4, x5, ⟨⟨x6, ⟨x7, x8⟩, x9⟩, x10⟩, ⟨x11, ⟨x12, x13⟩, x14⟩, x15, x16, x17⟩ : S38)]) (hC : Kd.C k38 w A 0 ([] : List S38)) (hcc : 0 ≤ c)  (k : Nat) (z z2 : ByteArray) (b2 : Bool) (hf : consortref23_find.f k a0 ([] : List S38) x16 = some (z, false)) (hw : consortref23_Whole.f k a0 M = some (z2, b2)) : Calls Try.prog 15 #[.agg #[.int .u64 a0, .slice A 0 c], .agg #[.int .i64 x0, .string x1, .int .u32 x2, .int .u64 x3, .bool x4, .bool x5, .int .u64 x6, .int .u64 x7, .int .i64 x8, .int .u64 x9, .slice x10.A x10.n x10.c, .int .u64 x11, .int .u64 x12, .int .i64 x13, .int .u64 x14, .int .u64 x15, .int .i64 x16, .int .i64 x17]] w fun e w' => ∃ A' c', e = .returned (.tuple #[.agg #[.int .u64 a0, .slice A' M.length c'], .bool b2]) ∧ Kd.R k38 38 w' w.heap.size (fun _ => True) (.slice A' M.length c') M ∧ Below w.heap.size w w' := by
  have HC := Aside0.mk hC
  clear hC
  have HCC := Aside0.mk hcc
  have HF := Aside0.mk hf
  have HWH := Aside0.mk hw
  clear hcc hf hw
  have HMM := Aside0.mk hM
  clear hM
  have hu54 := Try.underlying54
  go_enter Try.func15, Try.ntmps15
  go_upto_region 1 with (first | ((with_reducible refine gate_dst (N := 2) rfl ?_); refine box_event ?hg (N := 2) ?hd (cs := #[.int .u64 a0, .slice A 0 c]) (t := 54) ?hr ?_; (case hd => rfl); (case hg => rfl); (case hr => first | (go_simp; done) | (go_simp; rfl)); intro g1 hg w1 hbox hb; have HX1 := Aside0.mk hbox; have HB1 := Aside0.mk hb; have HG1 := Aside0.mk (show w.heap.size ≤ g1 from Nat.le_of_eq hg.symm); clear hg hbox hb) | ((with_reducible refine gate_dst (N := 3) rfl ?_); refine box_event ?hg (N := 3) ?hd (cs := #[.int .i64 x0, .string x1, .int .u32 x2, .int .u64 x3, .bool x4, .bool x5, .int .u64 x6, .int .u64 x7, .int .i64 x8, .int .u64 x9, .slice x10.A x10.n x10.c, .int .u64 x11, .int .u64 x12, .int .i64 x13, .int .u64 x14, .int .u64 x15, .int .i64 x16, .int .i64 x17]) (t := 38) ?hr ?_; (case hd => rfl); (case hg => rfl); (case hr => first | (go_simp; done) | (go_simp; rfl)); intro g2 hg w2 hbox hb; have HX2 := Aside0.mk hbox; have HX1' := Aside0.mk ((hb.block _ (blk_lt HX1.out)).trans HX1.out); have HB2 := Aside0.mk (below_step HB1.out hb); have HG2 := Aside0.mk (show w.heap.size ≤ g2 by rw [hg]; exact HB1.out.size); clear hg hbox hb))
  have R0 := Aside0.mk (show RG w (w2.alloc (.cells #[.int .u64 0, .slice none 0 0] 54)) g1 g2 w2.heap.size #[.int .u64 a0, .slice A 0 c] #[.int .i64 x0, .string x1, .int .u32 x2, .int .u64 x3, .bool x4, .bool x5, .int .u64 x6, .int .u64 x7, .int .i64 x8, .int .u64 x9, .slice x10.A x10.n x10.c, .int .u64 x11, .int .u64 x12, .int .i64 x13, .int .u64 x14, .int .u64 x15, .int .i64 x16, .int .i64 x17] #[.int .u64 0, .slice none 0 0] from ⟨below_alloc HB2.out _, ((below_alloc (Below.refl _ _) _).block _ (blk_lt HX1'.out)).trans HX1'.out, ((below_alloc (Below.refl _ _) _).block _ (blk_lt HX2.out)).trans HX2.out, heap_alloc_new w2 _, HG1.out, HG2.out, HB2.out.size, Nat.ne_of_lt (blk_lt HX1'.out)⟩)
  clear HX1 HX2 HX1' HB1 HB2
  obtain ⟨g3, hg3⟩ : ∃ g3, g3 = w2.heap.size := ⟨_, rfl⟩
  rw [← hg3] at R0 ⊢
  clear hg3
  generalize w2.alloc (.cells #[.int .u64 0, .slice none 0 0] 54) = w3 at R0 ⊢
  have p0 := cellAt (i := 0) R0.out.b1 rfl; have p1 := cellAt (i := 1) R0.out.b1 rfl
  have q0 := cellAt (i := 0) R0.out.b2 rfl; have q15 := cellAt (i := 15) R0.out.b2 rfl; have q16 := cellAt (i := 16) R0.out.b2 rfl; have q17 := cellAt (i := 17) R0.out.b2 rfl
  go_wp2
  refine start_ (n := 14) (S := fun w' : World => w'.cell? ⟨g1, 1, none⟩ = some (.slice A 0 c) ∧ w'.cell? ⟨g2, 17, none⟩ = some (.int .i64 x17)) (ds := []) #[false, false, false, false, false, false, false, false, false, false, false, false, false, false] (by kernel_rfl) rfl rfl ⟨cellAt (i := 1) R0.out.b1 rfl, cellAt (i := 17) R0.out.b2 rfl⟩ (fun hHeld => ?_)
  have R1 := Aside0.mk (R0.out.below (W1 := w3.drew) (below_drew (Below.refl _ _)))
  generalize w3.drew = w4 at R1 hHeld ⊢
  refine pure_ (i := 0) (N := some 43) (v := ?_) (a' := ?_) #[true, false, false, false, false, false, false, false, false, false, false, false, false, false] rfl rfl (by kernel_rfl) (fun _ _ _ h => h) (Or.inl ⟨by rfl, ?_⟩) ?_ ?_
  rotate_left
  · intro w'
    go_simp
    with_reducible rfl
  rotate_left
  · simp only [Act.put, List.setIfInBounds_toArray, List.set_cons_zero, List.set_cons_succ, i64_w, i32_w]
    rfl
  refine take_ (i := 1) (N := some 44) (v := ?_) (a' := ?_) #[true, true, false, false, false, false, false, false, false, false, false, false, false, false] rfl rfl (by kernel_rfl) (fun _ _ _ h => h) (Or.inl ⟨by rfl, ?_⟩) hHeld ?_ ?_
  rotate_left
  · rintro w' ⟨s1, s2⟩
    go_simp
    with_reducible rfl
  rotate_left
  · simp only [Act.put, List.setIfInBounds_toArray, List.set_cons_zero, List.set_cons_succ, i64_w, i32_w]
    rfl
  refine pure_ (i := 2) (N := some 45) (v := ?_) (a' := ?_) #[true, true, true, false, false, false, false, false, false, false, false, false, false, false] rfl rfl (by kernel_rfl) (fun _ _ _ h => h) (Or.inl ⟨by rfl, ?_⟩) ?_ ?_
  rotate_left
  · intro w'
    go_simp
    with_reducible rfl
  rotate_left
  · simp only [Act.put, List.setIfInBounds_toArray, List.set_cons_zero, List.set_cons_succ, i64_w, i32_w]
    rfl
  refine pure_ (i := 3) (N := some 46) (v := ?_) (a' := ?_) #[true, true, true, true, false, false, false, false, false, false, false, false, false, false] rfl rfl (by kernel_rfl) (fun _ _ _ h => h) (Or.inl ⟨by rfl, ?_⟩) ?_ ?_
  rotate_left
  · intro w'
    go_simp
    with_reducible rfl
  rotate_left
  · simp only [Act.put, List.setIfInBounds_toArray, List.set_cons_zero, List.set_cons_succ, i64_w, i32_w]
    rfl
  refine pure_ (i := 4) (N := some 47) (v := ?_) (a' := ?_) #[true, true, true, true, true, false, false, false, false, false, false, false, false, false] rfl rfl (by kernel_rfl) (fun _ _ _ h => h) (Or.inl ⟨by rfl, ?_⟩) ?_ ?_
  rotate_left
  · intro w'
    go_simp
    with_reducible rfl
  rotate_left
  · simp only [Act.put, List.setIfInBounds_toArray, List.set_cons_zero, List.set_cons_succ, i64_w, i32_w]
    rfl
  refine pure_ (i := 5) (N := some 48) (v := undef) (a' := ?_) #[true, true, true, true, true, true, false, false, false, false, false, false, false, false] rfl rfl (by kernel_rfl) (fun _ _ _ h => h) (Or.inr ⟨by rfl, rfl⟩) ?_ ?_
  rotate_left
  · simp only [Act.put, List.setIfInBounds_toArray, List.set_cons_zero, List.set_cons_succ, i64_w, i32_w]
    rfl
  refine pure_ (i := 6) (N := some 49) (v := undef) (a' := ?_) #[true, true, true, true, true, true, true, false, false, false, false, false, false, false] rfl rfl (by kernel_rfl) (fun _ _ _ h => h) (Or.inr ⟨by rfl, rfl⟩) ?_ ?_
  rotate_left
  · simp only [Act.put, List.setIfInBounds_toArray, List.set_cons_zero, List.set_cons_succ, i64_w, i32_w]
    rfl
  refine pure_ (i := 7) (N := some 50) (v := undef) (a' := ?_) #[true, true, true, true, true, true, true, true, false, false, false, false, false, false] rfl rfl (by kernel_rfl) (fun _ _ _ h => h) (Or.inr ⟨by rfl, rfl⟩) ?_ ?_
  rotate_left
  · simp only [Act.put, List.setIfInBounds_toArray, List.set_cons_zero, List.set_cons_succ, i64_w, i32_w]
    rfl
  refine pure_ (i := 8) (N := some 51) (v := undef) (a' := ?_) #[true, true, true, true, true, true, true, true, true, false, false, false, false, false] rfl rfl (by kernel_rfl) (fun _ _ _ h => h) (Or.inr ⟨by rfl, rfl⟩) ?_ ?_
  rotate_left
  · simp only [Act.put, List.setIfInBounds_toArray, List.set_cons_zero, List.set_cons_succ, i64_w, i32_w]
    rfl
  refine pure_ (i := 9) (N := some 52) (v := undef) (a' := ?_) #[true, true, true, true, true, true, true, true, true, true, false, false, false, false] rfl rfl (by kernel_rfl) (fun _ _ _ h => h) (Or.inr ⟨by rfl, rfl⟩) ?_ ?_
  rotate_left
  · simp only [Act.put, List.setIfInBounds_toArray, List.set_cons_zero, List.set_cons_succ, i64_w, i32_w]
    rfl
  refine pure_ (i := 10) (N := some 53) (v := undef) (a' := ?_) #[true, true, true, true, true, true, true, true, true, true, true, false, false, false] rfl rfl (by kernel_rfl) (fun _ _ _ h => h) (Or.inr ⟨by rfl, rfl⟩) ?_ ?_
  rotate_left
  · simp only [Act.put, List.setIfInBounds_toArray, List.set_cons_zero, List.set_cons_succ, i64_w, i32_w]
    rfl
  refine pure_ (i := 11) (N := some 54) (v := undef) (a' := ?_) #[true, true, true, true, true, true, true, true, true, true, true, true, false, false] rfl rfl (by kernel_rfl) (fun _ _ _ h => h) (Or.inr ⟨by rfl, rfl⟩) ?_ ?_
  rotate_left
  · simp only [Act.put, List.setIfInBounds_toArray, List.set_cons_zero, List.set_cons_succ, i64_w, i32_w]
    rfl
  refine pure_ (i := 12) (N := some 55) (v := undef) (a' := ?_) #[true, true, true, true, true, true, true, true, true, true, true, true, true, false] rfl rfl (by kernel_rfl) (fun _ _ _ h => h) (Or.inr ⟨by rfl, rfl⟩) ?_ ?_
  rotate_left
  · simp only [Act.put, List.setIfInBounds_toArray, List.set_cons_zero, List.set_cons_succ, i64_w, i32_w]
    rfl
  refine pure_ (i := 13) (N := some 56) (v := ?_) (a' := ?_) #[true, true, true, true, true, true, true, true, true, true, true, true, true, true] rfl rfl (by kernel_rfl) (fun _ _ _ h => h) (Or.inl ⟨by rfl, ?_⟩) ?_ ?_
  rotate_left
  · intro w'
    go_simp
    with_reducible rfl
  rotate_left
  · simp only [Act.put, List.setIfInBounds_toArray, List.set_cons_zero, List.set_cons_succ, i64_w, i32_w]
    rfl
  refine done_ (by kernel_rfl) ?_
  have p0 := cellAt (i := 0) R1.out.b1 rfl; have p1 := cellAt (i := 1) R1.out.b1 rfl; have q16 := cellAt (i := 16) R1.out.b2 rfl
  go_wp2_with (first | (go_at_call 20; (refine (consortref23_find.calls k a0 A c ([] : List S38) x16 z false _ (C38_below HC.out R1.out.bel) HCC.out HF.out).mono ?_); rintro _ w5 ⟨rfl, hb⟩; have R2 := Aside0.mk (R1.out.below hb); clear hb))
  refine start_ (n := 9) (S := fun w' : World => w'.heap[g1]? = some (.cells #[.int .u64 a0, .slice A 0 c] 54 (0, 0)) ∧ w'.heap[g2]? = some (.cells #[.int .i64 x0, .string x1, .int .u32 x2, .int .u64 x3, .bool x4, .bool x5, .int .u64 x6, .int .u64 x7, .int .i64 x8, .int .u64 x9, .slice x10.A x10.n x10.c, .int .u64 x11, .int .u64 x12, .int .i64 x13, .int .u64 x14, .int .u64 x15, .int .i64 x16, .int .i64 x17] 38 (0, 0))) (ds := [8]) #[false, false, false, false, false, false, false, false, false] (by kernel_rfl) rfl rfl ⟨R2.out.b1, R2.out.b2⟩ (fun hHeld => ?_)
  have RS := Aside0.mk (R2.out.below (W1 := w5.drew) (below_drew (Below.refl _ _)))
  generalize w5.drew = ws at RS hHeld ⊢
  have HLT := Aside0.mk (show g1 < ws.heap.size ∧ g2 < ws.heap.size ∧ g3 < ws.heap.size from ⟨blk_lt RS.out.b1, blk_lt RS.out.b2, blk_lt RS.out.b3⟩)
  have HCS := Aside0.mk (C38_below HC.out RS.out.bel)
  have HSK := Aside0.mk (fun (W : World) (hW : Below ws.heap.size ws W) => (show W.heap[g1]? = some (.cells #[.int .u64 a0, .slice A 0 c] 54 (0, 0)) ∧ W.heap[g2]? = some (.cells #[.int .i64 x0, .string x1, .int .u32 x2, .int .u64 x3, .bool x4, .bool x5, .int .u64 x6, .int .u64 x7, .int .i64 x8, .int .u64 x9, .slice x10.A x10.n x10.c, .int .u64 x11, .int .u64 x12, .int .i64 x13, .int .u64 x14, .int .u64 x15, .int .i64 x16, .int .i64 x17] 38 (0, 0)) from ⟨(hW.block _ HLT.out.1).trans RS.out.b1, (hW.block _ HLT.out.2.1).trans RS.out.b2⟩))
  refine pure_ (i := 1) (N := some 68) (v := ?_) (a' := ?_) #[false, true, false, false, false, false, false, false, false] rfl rfl (by kernel_rfl) (fun _ _ _ h => h) (Or.inl ⟨by rfl, ?_⟩) ?_ ?_
  rotate_left
  · intro w'
    go_simp
    with_reducible rfl
  rotate_left
  · simp only [Act.put, List.setIfInBounds_toArray, List.set_cons_zero, List.set_cons_succ, i64_w, i32_w]
    rfl
  refine take_ (i := 2) (N := some 69) (v := ?_) (a' := ?_) #[false, true, true, false, false, false, false, false, false] rfl rfl (by kernel_rfl) (fun _ _ _ h => h) (Or.inl ⟨by rfl, ?_⟩) hHeld ?_ ?_
  rotate_left
  · rintro w' ⟨t1, t2⟩; have s1 := cellAt (i := 1) t1 rfl
    go_simp
    with_reducible rfl
  rotate_left
  · simp only [Act.put, List.setIfInBounds_toArray, List.set_cons_zero, List.set_cons_succ, i64_w, i32_w]
    rfl
  refine take_ (i := 4) (N := some 71) (v := ?_) (a' := ?_) #[false, true, true, false, true, false, false, false, false] rfl rfl (by kernel_rfl) (fun _ _ _ h => h) (Or.inl ⟨by rfl, ?_⟩) hHeld ?_ ?_
  rotate_left
  · rintro w' ⟨t1, t2⟩
    refine Eq.trans (exec_load (P := Try.prog) (W := w') (.tmp 3) 38 rfl rfl (load38b t2)) ?_
    with_reducible rfl
  rotate_left
  · simp only [Act.put, List.setIfInBounds_toArray, List.set_cons_zero, List.set_cons_succ, i64_w, i32_w]
    rfl
  refine join_ (σ := Value × Value × Value) 3 #[true, true, true, true, true, true, false, false, false] (fun s_ => [(67, s_.1), (70, s_.2.1), (72, s_.2.2)]) (fun s_ w' => Below ws.heap.size ws w' ∧ Kd.R k38 38 w' ws.heap.size (fun _ => True) s_.2.1 ([] : List S38) ∧ ∃ kx : Nat, s_.2.2 = .slice (some ⟨kx, 0, none⟩) 1 1 ∧ w'.heap[kx]? = some (.cells #[.int .i64 x0, .string x1, .int .u32 x2, .int .u64 x3, .bool x4, .bool x5, .int .u64 x6, .int .u64 x7, .int .i64 x8, .int .u64 x9, .slice x10.A x10.n x10.c, .int .u64 x11, .int .u64 x12, .int .i64 x13, .int .u64 x14, .int .u64 x15, .int .i64 x16, .int .i64 x17] 38 (0, 0))) ?_ ?_
  rotate_left
  · intro hCont
    have HBs := Aside0.mk (Below.refl ws.heap.size ws)
    refine two_ (i := 0) (j := 5) (Ni := some 67) (Nj := some 72) #[true, true, true, false, true, false, false, false, false] #[false, true, true, false, true, true, false, false, false] rfl rfl rfl rfl (by kernel_rfl) (by decide) (by decide) (fun K hK => ?_) (fun K hK => ?_)
    · refine Kd.R_lit_step k38 _ 38 ?hg (N := 67) ?hd (xs := ([] : List S38)) (inner := []) (ok := fun _ => True) (okp := fun _ => True) ?hr ?hp (fun _ hk => hk) trivial (Below.refl _ _) (Nat.le_refl _) (by simp) ?_; (case hd => rfl); (case hg => rfl); (case hr => first | (go_simp; done) | (go_simp; rfl)); (case hp => exact (Reps.none _ _))
      intro v0 wa ho hb hg hnew
      have V0 := Aside0.mk (Kd.R_lower ho HBs.out.size)
      have V0N := Aside0.mk hnew
      have HBa := Aside0.mk (below_step HBs.out hb)
      clear ho hb hg hnew
      refine hK.out _ _ (HSK.out _ HBa.out) (fun hHeld => ?_)
      clear hK K
      refine norm_ (a' := ?_) ?_ ?_
      rotate_left
      · show Act.put _ (some 67) _ = _
        simp only [Act.put, List.setIfInBounds_toArray, List.set_cons_zero, List.set_cons_succ, i64_w, i32_w]
        rfl
      refine two_ (i := 3) (j := 5) (Ni := some 70) (Nj := some 72) #[true, true, true, true, true, false, false, false, false] #[true, true, true, false, true, true, false, false, false] rfl rfl rfl rfl (by kernel_rfl) (by decide) (by decide) (fun K hK => ?_) (fun K hK => ?_)
      · refine Kd.R_append_rows_step k38 (w0 := ws) ws.heap.size (by rfl) (.tmp 67) (.tmp 69) 26 38 (.agg #[(.int .i64 0), (.string ⟨#[]⟩), (.int .u32 0), (.int .u64 0), (.bool false), (.bool false), (.int .u64 0), (.int .u64 0), (.int .i64 0), (.int .u64 0), (.slice none 0 0), (.int .u64 0), (.int .u64 0), (.int .i64 0), (.int .u64 0), (.int .u64 0), (.int .i64 0), (.int .i64 0)]) 160 rfl Try.underlying26 info38 rfl (by decide) (by omega) v0 ([] : List S38) ([] : List S38) _ _ _ (fun _ => True) (fun _ => False) rfl rfl ?aO ?aR (fun _ _ h => h) (fun _ h => h.elim) (fun _ _ => trivial) HBa.out HBa.out.size ?aL ?_
        (case aR => exact C38_below HCS.out HBa.out)
        (case aO => exact V0.out)
        (case aL => first | (simp; done) | (simp only [List.length_nil]; omega))
        intro v1 wb ho hb hg hat
        rw [List.nil_append] at ho
        have V1 := Aside0.mk ho
        have HBb := Aside0.mk hb
        clear ho hb hg hat
        refine hK.out _ _ (HSK.out _ HBb.out) (fun hHeld => ?_)
        clear hK K
        refine norm_ (a' := ?_) ?_ ?_
        rotate_left
        · show Act.put _ (some 70) _ = _
          simp only [Act.put, List.setIfInBounds_toArray, List.set_cons_zero, List.set_cons_succ, i64_w, i32_w]
          rfl
        refine one_ (i := 5) (N := some 72) #[true, true, true, true, true, true, false, false, false] rfl rfl (by kernel_rfl) (by decide) (fun K hK => ?_)
        have KX := Aside0.mk (heap_alloc_new wb (.cells #[.int .i64 x0, .string x1, .int .u32 x2, .int .u64 x3, .bool x4, .bool x5, .int .u64 x6, .int .u64 x7, .int .i64 x8, .int .u64 x9, .slice x10.A x10.n x10.c, .int .u64 x11, .int .u64 x12, .int .i64 x13, .int .u64 x14, .int .u64 x15, .int .i64 x16, .int .i64 x17] 38))
        have HXb := Aside0.mk (show Below wb.heap.size wb (wb.alloc (.cells #[.int .i64 x0, .string x1, .int .u32 x2, .int .u64 x3, .bool x4, .bool x5, .int .u64 x6, .int .u64 x7, .int .i64 x8, .int .u64 x9, .slice x10.A x10.n x10.c, .int .u64 x11, .int .u64 x12, .int .i64 x13, .int .u64 x14, .int .u64 x15, .int .i64 x16, .int .i64 x17] 38)) from below_alloc (Below.refl _ _) _)
        have HBc := Aside0.mk (below_step HBb.out HXb.out)
        refine val_ (w1 := wb.alloc (.cells #[.int .i64 x0, .string x1, .int .u32 x2, .int .u64 x3, .bool x4, .bool x5, .int .u64 x6, .int .u64 x7, .int .i64 x8, .int .u64 x9, .slice x10.A x10.n x10.c, .int .u64 x11, .int .u64 x12, .int .i64 x13, .int .u64 x14, .int .u64 x15, .int .i64 x16, .int .i64 x17] 38)) (v := .slice (some ⟨wb.heap.size, 0, none⟩) 1 1) (by rfl) (by first | (go_simp; done) | (go_simp; rfl)) ?_
        have V1' := Aside0.mk (Kd.R_move (Kd.R_bound V1.out) (fun k hk => HXb.out.block k hk.2.2.1))
        refine hK.out _ _ (HSK.out _ HBc.out) (fun hHeld => ?_)
        clear hK K
        refine norm_ (a' := ?_) ?_ ?_
        rotate_left
        · show Act.put _ (some 72) _ = _
          simp only [Act.put, List.setIfInBounds_toArray, List.set_cons_zero, List.set_cons_succ, i64_w, i32_w]
          rfl
        obtain ⟨kx, hkx⟩ : ∃ kx, kx = wb.heap.size := ⟨_, rfl⟩
        rw [← hkx] at KX ⊢
        clear hkx
        generalize wb.alloc (.cells #[.int .i64 x0, .string x1, .int .u32 x2, .int .u64 x3, .bool x4, .bool x5, .int .u64 x6, .int .u64 x7, .int .i64 x8, .int .u64 x9, .slice x10.A x10.n x10.c, .int .u64 x11, .int .u64 x12, .int .i64 x13, .int .u64 x14, .int .u64 x15, .int .i64 x16, .int .i64 x17] 38) = wc at KX HXb HBc V1' hHeld ⊢
        exact norm_ (by simp only [putAll, Act.put, List.setIfInBounds_toArray, List.set_cons_zero, List.set_cons_succ]) (hCont (v0, v1, .slice (some ⟨kx, 0, none⟩) 1 1) _ ⟨HBc.out, Kd.R_mono V1'.out (fun _ _ => trivial), kx, rfl, KX.out⟩)
      · have KX := Aside0.mk (heap_alloc_new wa (.cells #[.int .i64 x0, .string x1, .int .u32 x2, .int .u64 x3, .bool x4, .bool x5, .int .u64 x6, .int .u64 x7, .int .i64 x8, .int .u64 x9, .slice x10.A x10.n x10.c, .int .u64 x11, .int .u64 x12, .int .i64 x13, .int .u64 x14, .int .u64 x15, .int .i64 x16, .int .i64 x17] 38))
        have HXb := Aside0.mk (show Below wa.heap.size wa (wa.alloc (.cells #[.int .i64 x0, .string x1, .int .u32 x2, .int .u64 x3, .bool x4, .bool x5, .int .u64 x6, .int .u64 x7, .int .i64 x8, .int .u64 x9, .slice x10.A x10.n x10.c, .int .u64 x11, .int .u64 x12, .int .i64 x13, .int .u64 x14, .int .u64 x15, .int .i64 x16, .int .i64 x17] 38)) from below_alloc (Below.refl _ _) _)
        have HBb := Aside0.mk (below_step HBa.out HXb.out)
        refine val_ (w1 := wa.alloc (.cells #[.int .i64 x0, .string x1, .int .u32 x2, .int .u64 x3, .bool x4, .bool x5, .int .u64 x6, .int .u64 x7, .int .i64 x8, .int .u64 x9, .slice x10.A x10.n x10.c, .int .u64 x11, .int .u64 x12, .int .i64 x13, .int .u64 x14, .int .u64 x15, .int .i64 x16, .int .i64 x17] 38)) (v := .slice (some ⟨wa.heap.size, 0, none⟩) 1 1) (by rfl) (by first | (go_simp; done) | (go_simp; rfl)) ?_
        have V0' := Aside0.mk (Kd.R_move (Kd.R_bound V0.out) (fun k hk => HXb.out.block k hk.2.2.1))
        have VNE := Aside0.mk (show some wa.heap.size ≠ v0.ownBlock from fun e => by have := own_lt V0.out _ e.symm; omega)
        refine hK.out _ _ (HSK.out _ HBb.out) (fun hHeld => ?_)
        clear hK K
        refine norm_ (a' := ?_) ?_ ?_
        rotate_left
        · show Act.put _ (some 72) _ = _
          simp only [Act.put, List.setIfInBounds_toArray, List.set_cons_zero, List.set_cons_succ, i64_w, i32_w]
          rfl
        obtain ⟨kx, hkx⟩ : ∃ kx, kx = wa.heap.size := ⟨_, rfl⟩
        rw [← hkx] at KX VNE ⊢
        clear hkx
        generalize wa.alloc (.cells #[.int .i64 x0, .string x1, .int .u32 x2, .int .u64 x3, .bool x4, .bool x5, .int .u64 x6, .int .u64 x7, .int .i64 x8, .int .u64 x9, .slice x10.A x10.n x10.c, .int .u64 x11, .int .u64 x12, .int .i64 x13, .int .u64 x14, .int .u64 x15, .int .i64 x16, .int .i64 x17] 38) = wb at KX HXb HBb V0' hHeld ⊢
        refine one_ (i := 3) (N := some 70) #[true, true, true, true, true, true, false, false, false] rfl rfl (by kernel_rfl) (by decide) (fun K hK => ?_)
        refine Kd.R_append_rows_step k38 (w0 := ws) ws.heap.size (by rfl) (.tmp 67) (.tmp 69) 26 38 (.agg #[(.int .i64 0), (.string ⟨#[]⟩), (.int .u32 0), (.int .u64 0), (.bool false), (.bool false), (.int .u64 0), (.int .u64 0), (.int .i64 0), (.int .u64 0), (.slice none 0 0), (.int .u64 0), (.int .u64 0), (.int .i64 0), (.int .u64 0), (.int .u64 0), (.int .i64 0), (.int .i64 0)]) 160 rfl Try.underlying26 info38 rfl (by decide) (by omega) v0 ([] : List S38) ([] : List S38) _ _ _ (fun _ => True) (fun _ => False) rfl rfl ?aO ?aR (fun _ _ h => h) (fun _ h => h.elim) (fun _ _ => trivial) HBb.out HBb.out.size ?aL ?_
        (case aR => exact C38_below HCS.out HBb.out)
        (case aO => exact (Kd.R_mono V0'.out (fun _ _ => trivial)))
        (case aL => first | (simp; done) | (simp only [List.length_nil]; omega))
        intro v1 wc ho hb hg hat
        rw [List.nil_append] at ho
        have V1 := Aside0.mk ho
        have HBc := Aside0.mk hb
        have KX2 := Aside0.mk ((hg.block _ (blk_lt KX.out) VNE.out).trans KX.out)
        clear ho hb hg hat
        refine hK.out _ _ (HSK.out _ HBc.out) (fun hHeld => ?_)
        clear hK K
        refine norm_ (a' := ?_) ?_ ?_
        rotate_left
        · show Act.put _ (some 70) _ = _
          simp only [Act.put, List.setIfInBounds_toArray, List.set_cons_zero, List.set_cons_succ, i64_w, i32_w]
          rfl
        exact norm_ (by simp only [putAll, Act.put, List.setIfInBounds_toArray, List.set_cons_zero, List.set_cons_succ]) (hCont (v0, v1, .slice (some ⟨kx, 0, none⟩) 1 1) _ ⟨HBc.out, Kd.R_mono V1.out (fun _ _ => trivial), kx, rfl, KX2.out⟩)
    · have KX := Aside0.mk (heap_alloc_new ws (.cells #[.int .i64 x0, .string x1, .int .u32 x2, .int .u64 x3, .bool x4, .bool x5, .int .u64 x6, .int .u64 x7, .int .i64 x8, .int .u64 x9, .slice x10.A x10.n x10.c, .int .u64 x11, .int .u64 x12, .int .i64 x13, .int .u64 x14, .int .u64 x15, .int .i64 x16, .int .i64 x17] 38))
      have HXb := Aside0.mk (show Below ws.heap.size ws (ws.alloc (.cells #[.int .i64 x0, .string x1, .int .u32 x2, .int .u64 x3, .bool x4, .bool x5, .int .u64 x6, .int .u64 x7, .int .i64 x8, .int .u64 x9, .slice x10.A x10.n x10.c, .int .u64 x11, .int .u64 x12, .int .i64 x13, .int .u64 x14, .int .u64 x15, .int .i64 x16, .int .i64 x17] 38)) from below_alloc (Below.refl _ _) _)
      have HBa := Aside0.mk (below_step HBs.out HXb.out)
      refine val_ (w1 := ws.alloc (.cells #[.int .i64 x0, .string x1, .int .u32 x2, .int .u64 x3, .bool x4, .bool x5, .int .u64 x6, .int .u64 x7, .int .i64 x8, .int .u64 x9, .slice x10.A x10.n x10.c, .int .u64 x11, .int .u64 x12, .int .i64 x13, .int .u64 x14, .int .u64 x15, .int .i64 x16, .int .i64 x17] 38)) (v := .slice (some ⟨ws.heap.size, 0, none⟩) 1 1) (by rfl) (by first | (go_simp; done) | (go_simp; rfl)) ?_
      refine hK.out _ _ (HSK.out _ HBa.out) (fun hHeld => ?_)
      clear hK K
      refine norm_ (a' := ?_) ?_ ?_
      rotate_left
      · show Act.put _ (some 72) _ = _
        simp only [Act.put, List.setIfInBounds_toArray, List.set_cons_zero, List.set_cons_succ, i64_w, i32_w]
        rfl
      obtain ⟨kx, hkx⟩ : ∃ kx, kx = ws.heap.size := ⟨_, rfl⟩
      rw [← hkx] at KX ⊢
      clear hkx
      generalize ws.alloc (.cells #[.int .i64 x0, .string x1, .int .u32 x2, .int .u64 x3, .bool x4, .bool x5, .int .u64 x6, .int .u64 x7, .int .i64 x8, .int .u64 x9, .slice x10.A x10.n x10.c, .int .u64 x11, .int .u64 x12, .int .i64 x13, .int .u64 x14, .int .u64 x15, .int .i64 x16, .int .i64 x17] 38) = wa at KX HXb HBa hHeld ⊢
      refine one_ (i := 0) (N := some 67) #[true, true, true, false, true, true, false, false, false] rfl rfl (by kernel_rfl) (by decide) (fun K hK => ?_)
      refine Kd.R_lit_step k38 _ 38 ?hg (N := 67) ?hd (xs := ([] : List S38)) (inner := []) (ok := fun _ => True) (okp := fun _ => True) ?hr ?hp (fun _ hk => hk) trivial (Below.refl _ _) (Nat.le_refl _) (by simp) ?_; (case hd => rfl); (case hg => rfl); (case hr => first | (go_simp; done) | (go_simp; rfl)); (case hp => exact (Reps.none _ _))
      intro v0 wb ho hb hg hnew
      have V0 := Aside0.mk (Kd.R_lower ho HBa.out.size)
      have V0N := Aside0.mk hnew
      have HBb := Aside0.mk (below_step HBa.out hb)
      have KX' := Aside0.mk ((hb.block _ (blk_lt KX.out)).trans KX.out)
      have VNE := Aside0.mk (show some kx ≠ v0.ownBlock from fun e => by obtain ⟨b, e1, e2⟩ := hnew; rw [e1] at e; injection e with e; have := blk_lt KX.out; omega)
      clear ho hb hg hnew
      refine hK.out _ _ (HSK.out _ HBb.out) (fun hHeld => ?_)
      clear hK K
      refine norm_ (a' := ?_) ?_ ?_
      rotate_left
      · show Act.put _ (some 67) _ = _
        simp only [Act.put, List.setIfInBounds_toArray, List.set_cons_zero, List.set_cons_succ, i64_w, i32_w]
        rfl
      refine one_ (i := 3) (N := some 70) #[true, true, true, true, true, true, false, false, false] rfl rfl (by kernel_rfl) (by decide) (fun K hK => ?_)
      refine Kd.R_append_rows_step k38 (w0 := ws) ws.heap.size (by rfl) (.tmp 67) (.tmp 69) 26 38 (.agg #[(.int .i64 0), (.string ⟨#[]⟩), (.int .u32 0), (.int .u64 0), (.bool false), (.bool false), (.int .u64 0), (.int .u64 0), (.int .i64 0), (.int .u64 0), (.slice none 0 0), (.int .u64 0), (.int .u64 0), (.int .i64 0), (.int .u64 0), (.int .u64 0), (.int .i64 0), (.int .i64 0)]) 160 rfl Try.underlying26 info38 rfl (by decide) (by omega) v0 ([] : List S38) ([] : List S38) _ _ _ (fun _ => True) (fun _ => False) rfl rfl ?aO ?aR (fun _ _ h => h) (fun _ h => h.elim) (fun _ _ => trivial) HBb.out HBb.out.size ?aL ?_
      (case aR => exact C38_below HCS.out HBb.out)
      (case aO => exact V0.out)
      (case aL => first | (simp; done) | (simp only [List.length_nil]; omega))
      intro v1 wc ho hb hg hat
      rw [List.nil_append] at ho
      have V1 := Aside0.mk ho
      have HBc := Aside0.mk hb
      have KX'2 := Aside0.mk ((hg.block _ (blk_lt KX'.out) VNE.out).trans KX'.out)
      clear ho hb hg hat
      refine hK.out _ _ (HSK.out _ HBc.out) (fun hHeld => ?_)
      clear hK K
      refine norm_ (a' := ?_) ?_ ?_
      rotate_left
      · show Act.put _ (some 70) _ = _
        simp only [Act.put, List.setIfInBounds_toArray, List.set_cons_zero, List.set_cons_succ, i64_w, i32_w]
        rfl
      exact norm_ (by simp only [putAll, Act.put, List.setIfInBounds_toArray, List.set_cons_zero, List.set_cons_succ]) (hCont (v0, v1, .slice (some ⟨kx, 0, none⟩) 1 1) _ ⟨HBc.out, Kd.R_mono V1.out (fun _ _ => trivial), kx, rfl, KX'2.out⟩)
  rintro ⟨v0, v1, vx⟩ wj ⟨hbj, hv1, kx, hvx, hkx⟩
  simp only at hvx
  subst hvx
  have HBj := Aside0.mk hbj
  have VJ := Aside0.mk hv1
  have KJ := Aside0.mk hkx
  clear hbj hv1 hkx hHeld
  refine norm_ (a' := ?_) ?_ ?_
  rotate_left
  · show putAll _ _ = _
    simp only [putAll, Act.put, List.setIfInBounds_toArray, List.set_cons_zero, List.set_cons_succ]
    rfl
  refine one_ (i := 6) (N := some 73) #[true, true, true, true, true, true, true, false, false] rfl rfl (by kernel_rfl) (by decide) (fun K hK => ?_)
  refine Kd.R_append_rows_step k38 (w0 := ws) ws.heap.size (by rfl) (.tmp 70) (.tmp 72) 26 38 (.agg #[(.int .i64 0), (.string ⟨#[]⟩), (.int .u32 0), (.int .u64 0), (.bool false), (.bool false), (.int .u64 0), (.int .u64 0), (.int .i64 0), (.int .u64 0), (.slice none 0 0), (.int .u64 0), (.int .u64 0), (.int .i64 0), (.int .u64 0), (.int .u64 0), (.int .i64 0), (.int .i64 0)]) 160 rfl Try.underlying26 info38 rfl (by decide) (by omega) v1 ([] : List S38) [(⟨x0, x1, x2, x3, x4, x5, ⟨⟨x6, ⟨x7, x8⟩, x9⟩, x10⟩, ⟨x11, ⟨x12, x13⟩, x14⟩, x15, x16, x17⟩ : S38)] _ _ _ (fun _ => True) (fun _ => False) rfl rfl VJ.out ?aR (fun _ _ h => h) (fun _ h => h.elim) (fun _ _ => trivial) HBj.out HBj.out.size ?aL ?_
  (case aR => exact C_of_blk38 (⟨x0, x1, x2, x3, x4, x5, ⟨⟨x6, ⟨x7, x8⟩, x9⟩, x10⟩, ⟨x11, ⟨x12, x13⟩, x14⟩, x15, x16, x17⟩ : S38) KJ.out)
  (case aL => first | (simp; done) | (omega))
  intro v2 w6 ho hb hg hat
  rw [List.nil_append, ← HMM.out] at ho
  obtain ⟨A2, c2, rfl⟩ := Kd.R_slice ho
  have V2 := Aside0.mk ho
  have HB6 := Aside0.mk hb
  clear ho hb hg hat
  refine hK.out _ _ (HSK.out _ HB6.out) (fun hHeld => ?_)
  clear hK K
  refine norm_ (a' := ?_) ?_ ?_
  rotate_left
  · show Act.put _ (some 73) _ = _
    simp only [Act.put, List.setIfInBounds_toArray, List.set_cons_zero, List.set_cons_succ, i64_w, i32_w]
    rfl
  refine pure_ (i := 7) (N := some 74) (v := ?_) (a' := ?_) #[true, true, true, true, true, true, true, true, false] rfl rfl (by kernel_rfl) (fun _ _ _ h => h) (Or.inl ⟨by rfl, ?_⟩) ?_ ?_
  rotate_left
  · intro w'
    go_simp
    with_reducible rfl
  rotate_left
  · simp only [Act.put, List.setIfInBounds_toArray, List.set_cons_zero, List.set_cons_succ, i64_w, i32_w]
    rfl
  have R6 := Aside0.mk (show RG w w6 g1 g2 g3 #[.int .u64 a0, .slice A 0 c] #[.int .i64 x0, .string x1, .int .u32 x2, .int .u64 x3, .bool x4, .bool x5, .int .u64 x6, .int .u64 x7, .int .i64 x8, .int .u64 x9, .slice x10.A x10.n x10.c, .int .u64 x11, .int .u64 x12, .int .i64 x13, .int .u64 x14, .int .u64 x15, .int .i64 x16, .int .i64 x17] #[.int .u64 0, .slice none 0 0] from ⟨below_then RS.out.bel RS.out.bel.size HB6.out, (HB6.out.block _ HLT.out.1).trans RS.out.b1, (HB6.out.block _ HLT.out.2.1).trans RS.out.b2, (HB6.out.block _ HLT.out.2.2).trans RS.out.b3, RS.out.h1, RS.out.h2, RS.out.h3, RS.out.n13⟩)
  have s1 := cellAt (i := 1) R6.out.b1 rfl
  have f1 := blk_frozen R6.out.b1 1
  refine last_ (i := 8) (N := none) #[true, true, true, true, true, true, true, true, true] rfl rfl (by kernel_rfl) (by decide) (fun K hK => ?_)
  refine skip_ (w1 := ?_) (by rfl) rfl ?_ ?_
  rotate_left
  · go_simp
    rfl
  refine hK.out _ _ ?_
  clear hK K hHeld
  refine done_ (by kernel_rfl) ?_
  have R7 := Aside0.mk (show RG w (w6.setCell ⟨g1, 1, none⟩ (.slice A2 M.length c2)) g1 g2 g3 #[.int .u64 a0, .slice A2 M.length c2] #[.int .i64 x0, .string x1, .int .u32 x2, .int .u64 x3, .bool x4, .bool x5, .int .u64 x6, .int .u64 x7, .int .i64 x8, .int .u64 x9, .slice x10.A x10.n x10.c, .int .u64 x11, .int .u64 x12, .int .i64 x13, .int .u64 x14, .int .u64 x15, .int .i64 x16, .int .i64 x17] #[.int .u64 0, .slice none 0 0] from R6.out.set1 1 _)
  have V7 := Aside0.mk (Kd.R_set V2.out R6.out.b1 (by decide) 1 (.slice A2 M.length c2))
  clear s1 f1
  generalize w6.setCell ⟨g1, 1, none⟩ (.slice A2 M.length c2) = w7 at R7 V7 ⊢
  have p0 := cellAt (i := 0) R7.out.b1 rfl; have p1 := cellAt (i := 1) R7.out.b1 rfl
  go_wp2_with (first | (go_at_call 16; (refine (consortref23_Whole.calls k a0 A2 c2 M z2 b2 _ (Kd.R_reads' V7.out).2.2 (Kd.R_reads' V7.out).2.1 HWH.out).mono ?_); rintro _ w8 ⟨rfl, hb⟩; have R8 := Aside0.mk (R7.out.below hb); have V8 := Aside0.mk (Kd.R_mono (Kd.R_move (Kd.R_bound V7.out) (fun k hk => hb.block k hk.2.2.1)) (ok' := fun _ => True) (fun _ _ => trivial)); clear p0 p1; have p0 := cellAt (i := 0) R8.out.b1 rfl; have p1 := cellAt (i := 1) R8.out.b1 rfl; have r0 := cellAt (i := 0) R8.out.b3 rfl; have r1 := cellAt (i := 1) R8.out.b3 rfl; have f0 := blk_frozen R8.out.b3 0; have f1 := blk_frozen R8.out.b3 1; clear hb))
  refine bodyPost_ret (results_ct rfl rfl rfl (run_loadVar_row (P := Try.prog) _ g3 54 54 _ (0, 0) _ ((R8.out.set3 0 (.int .u64 a0)).set3 1 (.slice A2 M.length c2)).b3 Try.underlying54 rfl (by kernel_rfl))) rfl ?_
  exact ⟨A2, c2, rfl, Kd.R_lower (Kd.R_set (Kd.R_set V8.out R8.out.b3 (by decide) 0 (.int .u64 a0)) (R8.out.set3 0 (.int .u64 a0)).b3 (by decide) 1 (.slice A2 M.length c2)) RS.out.bel.size, ((R8.out.set3 0 (.int .u64 a0)).set3 1 (.slice A2 M.length c2)).bel⟩
set_option maxHeartbeats 8000000 in
set_option maxRecDepth 100000 in
theorem tr_new1 (a0 : Int) (A : Option Addr) (c : Nat) (l : List S38) (x0 : Int) (x1 : ByteArray) (x2 x3 : Int) (x4 x5 : Bool) (x6 x7 x8 x9 : Int) (x10 : OV) (x11 x12 x13 x14 x15 x16 x17 : Int) (w : World) (d0 : (x0 != 4) = false) (d1 : (x15 != a0) = false) (d2 : decide (x17 < 1) = false) (d3 : decide (16 < x17) = false) (d4 : decide (x16 < 0) = false) (d5 : decide (x17 ≤ x16) = false) (M : List S38) (hM : M = l ++ [(⟨x0, x1, x2, x3, x4, x5, ⟨⟨x6, ⟨x7, x8⟩, x9⟩, x10⟩, ⟨x11, ⟨x12, x13⟩, x14⟩, x15, x16, x17⟩ : S38)]) (hC : Kd.C k38 w A l.length l) (hcc : l.length ≤ c) (hlen : l.length ≤ 1000) (hl : 0 < l.length) (hne : (rd_T38 l 0).f10 = x17) (k : Nat) (z z2 : ByteArray) (b2 : Bool) (hf : consortref23_find.f k a0 l x16 = some (z, false)) (hw : consortref23_Whole.f k a0 M = some (z2, b2)) : Calls Try.prog 15 #[.agg #[.int .u64 a0, .slice A l.length c], .agg #[.int .i64 x0, .string x1, .int .u32 x2, .int .u64 x3, .bool x4, .bool x5, .int .u64 x6, .int .u64 x7, .int .i64 x8, .int .u64 x9, .slice x10.A x10.n x10.c, .int .u64 x11, .int .u64 x12, .int .i64 x13, .int .u64 x14, .int .u64 x15, .int .i64 x16, .int .i64 x17]] w fun e w' => ∃ A' c', e = .returned (.tuple #[.agg #[.int .u64 a0, .slice A' M.length c'], .bool b2]) ∧ Kd.R k38 38 w' w.heap.size (fun _ => True) (.slice A' M.length c') M ∧ Below w.heap.size w w' := by
  have HC := Aside0.mk hC
  have HL := Aside0.mk hl
  obtain ⟨t0, ht0⟩ : ∃ t, t = (rd_T38 l 0).f10 := ⟨_, rfl⟩
  rw [← ht0] at hne
  have e1 : (t0 != x17) = false := by rw [hne]; exact bne_self_eq_false _
  have HT := Aside0.mk ht0
  clear hC hne ht0
  have HCC := Aside0.mk hcc
  have HLEN := Aside0.mk hlen
  have HF := Aside0.mk hf
  have HWH := Aside0.mk hw
  clear hcc hlen hf hw
  have HMM := Aside0.mk hM
  clear hM
  have hu54 := Try.underlying54
  go_enter Try.func15, Try.ntmps15
  go_upto_region 1 with (first | ((with_reducible refine gate_dst (N := 2) rfl ?_); refine box_event ?hg (N := 2) ?hd (cs := #[.int .u64 a0, .slice A l.length c]) (t := 54) ?hr ?_; (case hd => rfl); (case hg => rfl); (case hr => first | (go_simp; done) | (go_simp; rfl)); intro g1 hg w1 hbox hb; have HX1 := Aside0.mk hbox; have HB1 := Aside0.mk hb; have HG1 := Aside0.mk (show w.heap.size ≤ g1 from Nat.le_of_eq hg.symm); clear hg hbox hb) | ((with_reducible refine gate_dst (N := 3) rfl ?_); refine box_event ?hg (N := 3) ?hd (cs := #[.int .i64 x0, .string x1, .int .u32 x2, .int .u64 x3, .bool x4, .bool x5, .int .u64 x6, .int .u64 x7, .int .i64 x8, .int .u64 x9, .slice x10.A x10.n x10.c, .int .u64 x11, .int .u64 x12, .int .i64 x13, .int .u64 x14, .int .u64 x15, .int .i64 x16, .int .i64 x17]) (t := 38) ?hr ?_; (case hd => rfl); (case hg => rfl); (case hr => first | (go_simp; done) | (go_simp; rfl)); intro g2 hg w2 hbox hb; have HX2 := Aside0.mk hbox; have HX1' := Aside0.mk ((hb.block _ (blk_lt HX1.out)).trans HX1.out); have HB2 := Aside0.mk (below_step HB1.out hb); have HG2 := Aside0.mk (show w.heap.size ≤ g2 by rw [hg]; exact HB1.out.size); clear hg hbox hb))
  have R0 := Aside0.mk (show RG w (w2.alloc (.cells #[.int .u64 0, .slice none 0 0] 54)) g1 g2 w2.heap.size #[.int .u64 a0, .slice A l.length c] #[.int .i64 x0, .string x1, .int .u32 x2, .int .u64 x3, .bool x4, .bool x5, .int .u64 x6, .int .u64 x7, .int .i64 x8, .int .u64 x9, .slice x10.A x10.n x10.c, .int .u64 x11, .int .u64 x12, .int .i64 x13, .int .u64 x14, .int .u64 x15, .int .i64 x16, .int .i64 x17] #[.int .u64 0, .slice none 0 0] from ⟨below_alloc HB2.out _, ((below_alloc (Below.refl _ _) _).block _ (blk_lt HX1'.out)).trans HX1'.out, ((below_alloc (Below.refl _ _) _).block _ (blk_lt HX2.out)).trans HX2.out, heap_alloc_new w2 _, HG1.out, HG2.out, HB2.out.size, Nat.ne_of_lt (blk_lt HX1'.out)⟩)
  clear HX1 HX2 HX1' HB1 HB2
  obtain ⟨g3, hg3⟩ : ∃ g3, g3 = w2.heap.size := ⟨_, rfl⟩
  rw [← hg3] at R0 ⊢
  clear hg3
  generalize w2.alloc (.cells #[.int .u64 0, .slice none 0 0] 54) = w3 at R0 ⊢
  have p0 := cellAt (i := 0) R0.out.b1 rfl; have p1 := cellAt (i := 1) R0.out.b1 rfl
  have q0 := cellAt (i := 0) R0.out.b2 rfl; have q15 := cellAt (i := 15) R0.out.b2 rfl; have q16 := cellAt (i := 16) R0.out.b2 rfl; have q17 := cellAt (i := 17) R0.out.b2 rfl
  go_wp2
  obtain ⟨ad, hA, hq⟩ := cell0_17 HC.out R0.out.bel HL.out
  rw [← HT.out] at hq
  cases hA
  have HT0 := Aside0.mk hq
  clear hq
  refine start_ (n := 14) (S := fun w' : World => w'.cell? ⟨g1, 1, none⟩ = some (.slice (some ad) l.length c) ∧ w'.cell? ⟨g2, 17, none⟩ = some (.int .i64 x17) ∧ w'.cell? ⟨ad.block, ad.off + 17, none⟩ = some (.int .i64 t0)) (ds := []) #[false, false, false, false, false, false, false, false, false, false, false, false, false, false] (by kernel_rfl) rfl rfl ⟨cellAt (i := 1) R0.out.b1 rfl, cellAt (i := 17) R0.out.b2 rfl, HT0.out⟩ (fun hHeld => ?_)
  have R1 := Aside0.mk (R0.out.below (W1 := w3.drew) (below_drew (Below.refl _ _)))
  generalize w3.drew = w4 at R1 hHeld ⊢
  refine pure_ (i := 0) (N := some 43) (v := ?_) (a' := ?_) #[true, false, false, false, false, false, false, false, false, false, false, false, false, false] rfl rfl (by kernel_rfl) (fun _ _ _ h => h) (Or.inl ⟨by rfl, ?_⟩) ?_ ?_
  rotate_left
  · intro w'
    go_simp
    with_reducible rfl
  rotate_left
  · simp only [Act.put, List.setIfInBounds_toArray, List.set_cons_zero, List.set_cons_succ, i64_w, i32_w]
    rfl
  refine take_ (i := 1) (N := some 44) (v := ?_) (a' := ?_) #[true, true, false, false, false, false, false, false, false, false, false, false, false, false] rfl rfl (by kernel_rfl) (fun _ _ _ h => h) (Or.inl ⟨by rfl, ?_⟩) hHeld ?_ ?_
  rotate_left
  · rintro w' ⟨s1, s2, s3⟩
    go_simp
    with_reducible rfl
  rotate_left
  · simp only [Act.put, List.setIfInBounds_toArray, List.set_cons_zero, List.set_cons_succ, i64_w, i32_w]
    rfl
  refine pure_ (i := 2) (N := some 45) (v := ?_) (a' := ?_) #[true, true, true, false, false, false, false, false, false, false, false, false, false, false] rfl rfl (by kernel_rfl) (fun _ _ _ h => h) (Or.inl ⟨by rfl, ?_⟩) ?_ ?_
  rotate_left
  · intro w'
    go_simp
    with_reducible rfl
  rotate_left
  · simp only [Act.put, List.setIfInBounds_toArray, List.set_cons_zero, List.set_cons_succ, i64_w, i32_w]
    rfl
  refine pure_ (i := 3) (N := some 46) (v := ?_) (a' := ?_) #[true, true, true, true, false, false, false, false, false, false, false, false, false, false] rfl rfl (by kernel_rfl) (fun _ _ _ h => h) (Or.inl ⟨by rfl, ?_⟩) ?_ ?_
  rotate_left
  · intro w'
    go_simp
    with_reducible rfl
  rotate_left
  · simp only [Act.put, List.setIfInBounds_toArray, List.set_cons_zero, List.set_cons_succ, i64_w, i32_w]
    rfl
  refine pure_ (i := 4) (N := some 47) (v := ?_) (a' := ?_) #[true, true, true, true, true, false, false, false, false, false, false, false, false, false] rfl rfl (by kernel_rfl) (fun _ _ _ h => h) (Or.inl ⟨by rfl, ?_⟩) ?_ ?_
  rotate_left
  · intro w'
    go_simp
    with_reducible rfl
  rotate_left
  · simp only [Act.put, List.setIfInBounds_toArray, List.set_cons_zero, List.set_cons_succ, i64_w, i32_w]
    rfl
  refine pure_ (i := 5) (N := some 48) (v := ?_) (a' := ?_) #[true, true, true, true, true, true, false, false, false, false, false, false, false, false] rfl rfl (by kernel_rfl) (fun _ _ _ h => h) (Or.inl ⟨by rfl, ?_⟩) ?_ ?_
  rotate_left
  · intro w'
    go_simp
    with_reducible rfl
  rotate_left
  · simp only [Act.put, List.setIfInBounds_toArray, List.set_cons_zero, List.set_cons_succ, i64_w, i32_w]
    rfl
  refine take_ (i := 6) (N := some 49) (v := ?_) (a' := ?_) #[true, true, true, true, true, true, true, false, false, false, false, false, false, false] rfl rfl (by kernel_rfl) (fun _ _ _ h => h) (Or.inl ⟨by rfl, ?_⟩) hHeld ?_ ?_
  rotate_left
  · rintro w' ⟨s1, s2, s3⟩
    go_simp
    with_reducible rfl
  rotate_left
  · simp only [Act.put, List.setIfInBounds_toArray, List.set_cons_zero, List.set_cons_succ, i64_w, i32_w]
    rfl
  refine pure_ (i := 7) (N := some 50) (v := ?_) (a' := ?_) #[true, true, true, true, true, true, true, true, false, false, false, false, false, false] rfl rfl (by kernel_rfl) (fun _ _ _ h => h) (Or.inl ⟨by rfl, ?_⟩) ?_ ?_
  rotate_left
  · intro w'
    go_simp
    with_reducible rfl
  rotate_left
  · simp only [Act.put, List.setIfInBounds_toArray, List.set_cons_zero, List.set_cons_succ, i64_w, i32_w]
    rfl
  refine pure_ (i := 8) (N := some 51) (v := ?_) (a' := ?_) #[true, true, true, true, true, true, true, true, true, false, false, false, false, false] rfl rfl (by kernel_rfl) (fun _ _ _ h => h) (Or.inl ⟨by rfl, ?_⟩) ?_ ?_
  rotate_left
  · intro w'
    go_simp
    with_reducible rfl
  rotate_left
  · simp only [Act.put, List.setIfInBounds_toArray, List.set_cons_zero, List.set_cons_succ, i64_w, i32_w]
    rfl
  refine take_ (i := 9) (N := some 52) (v := ?_) (a' := ?_) #[true, true, true, true, true, true, true, true, true, true, false, false, false, false] rfl rfl (by kernel_rfl) (fun _ _ _ h => h) (Or.inl ⟨by rfl, ?_⟩) hHeld ?_ ?_
  rotate_left
  · rintro w' ⟨s1, s2, s3⟩
    go_simp
    with_reducible rfl
  rotate_left
  · simp only [Act.put, List.setIfInBounds_toArray, List.set_cons_zero, List.set_cons_succ, i64_w, i32_w]
    rfl
  refine pure_ (i := 10) (N := some 53) (v := ?_) (a' := ?_) #[true, true, true, true, true, true, true, true, true, true, true, false, false, false] rfl rfl (by kernel_rfl) (fun _ _ _ h => h) (Or.inl ⟨by rfl, ?_⟩) ?_ ?_
  rotate_left
  · intro w'
    go_simp
    with_reducible rfl
  rotate_left
  · simp only [Act.put, List.setIfInBounds_toArray, List.set_cons_zero, List.set_cons_succ, i64_w, i32_w]
    rfl
  refine take_ (i := 11) (N := some 54) (v := ?_) (a' := ?_) #[true, true, true, true, true, true, true, true, true, true, true, true, false, false] rfl rfl (by kernel_rfl) (fun _ _ _ h => h) (Or.inl ⟨by rfl, ?_⟩) hHeld ?_ ?_
  rotate_left
  · rintro w' ⟨s1, s2, s3⟩
    go_simp
    with_reducible rfl
  rotate_left
  · simp only [Act.put, List.setIfInBounds_toArray, List.set_cons_zero, List.set_cons_succ, i64_w, i32_w]
    rfl
  refine pure_ (i := 12) (N := some 55) (v := ?_) (a' := ?_) #[true, true, true, true, true, true, true, true, true, true, true, true, true, false] rfl rfl (by kernel_rfl) (fun _ _ _ h => h) (Or.inl ⟨by rfl, ?_⟩) ?_ ?_
  rotate_left
  · intro w'
    go_simp
    with_reducible rfl
  rotate_left
  · simp only [Act.put, List.setIfInBounds_toArray, List.set_cons_zero, List.set_cons_succ, i64_w, i32_w]
    rfl
  refine pure_ (i := 13) (N := some 56) (v := ?_) (a' := ?_) #[true, true, true, true, true, true, true, true, true, true, true, true, true, true] rfl rfl (by kernel_rfl) (fun _ _ _ h => h) (Or.inl ⟨by rfl, ?_⟩) ?_ ?_
  rotate_left
  · intro w'
    go_simp
    with_reducible rfl
  rotate_left
  · simp only [Act.put, List.setIfInBounds_toArray, List.set_cons_zero, List.set_cons_succ, i64_w, i32_w]
    rfl
  refine done_ (by kernel_rfl) ?_
  have p0 := cellAt (i := 0) R1.out.b1 rfl; have p1 := cellAt (i := 1) R1.out.b1 rfl; have q16 := cellAt (i := 16) R1.out.b2 rfl
  go_wp2_with (first | (go_at_call 20; (with_reducible refine (consortref23_find.calls k a0 (some ad) c l x16 z false _ (C38_below HC.out R1.out.bel) HCC.out HF.out).mono ?_); rintro _ w5 ⟨rfl, hb⟩; have R2 := Aside0.mk (R1.out.below hb); clear hb))
  refine start_ (n := 9) (S := fun w' : World => w'.heap[g1]? = some (.cells #[.int .u64 a0, .slice (some ad) l.length c] 54 (0, 0)) ∧ w'.heap[g2]? = some (.cells #[.int .i64 x0, .string x1, .int .u32 x2, .int .u64 x3, .bool x4, .bool x5, .int .u64 x6, .int .u64 x7, .int .i64 x8, .int .u64 x9, .slice x10.A x10.n x10.c, .int .u64 x11, .int .u64 x12, .int .i64 x13, .int .u64 x14, .int .u64 x15, .int .i64 x16, .int .i64 x17] 38 (0, 0))) (ds := [8]) #[false, false, false, false, false, false, false, false, false] (by kernel_rfl) rfl rfl ⟨R2.out.b1, R2.out.b2⟩ (fun hHeld => ?_)
  have RS := Aside0.mk (R2.out.below (W1 := w5.drew) (below_drew (Below.refl _ _)))
  generalize w5.drew = ws at RS hHeld ⊢
  have HLT := Aside0.mk (show g1 < ws.heap.size ∧ g2 < ws.heap.size ∧ g3 < ws.heap.size from ⟨blk_lt RS.out.b1, blk_lt RS.out.b2, blk_lt RS.out.b3⟩)
  have HCS := Aside0.mk (C38_below HC.out RS.out.bel)
  have HSK := Aside0.mk (fun (W : World) (hW : Below ws.heap.size ws W) => (show W.heap[g1]? = some (.cells #[.int .u64 a0, .slice (some ad) l.length c] 54 (0, 0)) ∧ W.heap[g2]? = some (.cells #[.int .i64 x0, .string x1, .int .u32 x2, .int .u64 x3, .bool x4, .bool x5, .int .u64 x6, .int .u64 x7, .int .i64 x8, .int .u64 x9, .slice x10.A x10.n x10.c, .int .u64 x11, .int .u64 x12, .int .i64 x13, .int .u64 x14, .int .u64 x15, .int .i64 x16, .int .i64 x17] 38 (0, 0)) from ⟨(hW.block _ HLT.out.1).trans RS.out.b1, (hW.block _ HLT.out.2.1).trans RS.out.b2⟩))
  refine pure_ (i := 1) (N := some 68) (v := ?_) (a' := ?_) #[false, true, false, false, false, false, false, false, false] rfl rfl (by kernel_rfl) (fun _ _ _ h => h) (Or.inl ⟨by rfl, ?_⟩) ?_ ?_
  rotate_left
  · intro w'
    go_simp
    with_reducible rfl
  rotate_left
  · simp only [Act.put, List.setIfInBounds_toArray, List.set_cons_zero, List.set_cons_succ, i64_w, i32_w]
    rfl
  refine take_ (i := 2) (N := some 69) (v := ?_) (a' := ?_) #[false, true, true, false, false, false, false, false, false] rfl rfl (by kernel_rfl) (fun _ _ _ h => h) (Or.inl ⟨by rfl, ?_⟩) hHeld ?_ ?_
  rotate_left
  · rintro w' ⟨t1, t2⟩; have s1 := cellAt (i := 1) t1 rfl
    go_simp
    with_reducible rfl
  rotate_left
  · simp only [Act.put, List.setIfInBounds_toArray, List.set_cons_zero, List.set_cons_succ, i64_w, i32_w]
    rfl
  refine take_ (i := 4) (N := some 71) (v := ?_) (a' := ?_) #[false, true, true, false, true, false, false, false, false] rfl rfl (by kernel_rfl) (fun _ _ _ h => h) (Or.inl ⟨by rfl, ?_⟩) hHeld ?_ ?_
  rotate_left
  · rintro w' ⟨t1, t2⟩
    refine Eq.trans (exec_load (P := Try.prog) (W := w') (.tmp 3) 38 rfl rfl (load38b t2)) ?_
    with_reducible rfl
  rotate_left
  · simp only [Act.put, List.setIfInBounds_toArray, List.set_cons_zero, List.set_cons_succ, i64_w, i32_w]
    rfl
  refine join_ (σ := Value × Value × Value) 3 #[true, true, true, true, true, true, false, false, false] (fun s_ => [(67, s_.1), (70, s_.2.1), (72, s_.2.2)]) (fun s_ w' => Below ws.heap.size ws w' ∧ Kd.R k38 38 w' ws.heap.size (fun _ => True) s_.2.1 l ∧ ∃ kx : Nat, s_.2.2 = .slice (some ⟨kx, 0, none⟩) 1 1 ∧ w'.heap[kx]? = some (.cells #[.int .i64 x0, .string x1, .int .u32 x2, .int .u64 x3, .bool x4, .bool x5, .int .u64 x6, .int .u64 x7, .int .i64 x8, .int .u64 x9, .slice x10.A x10.n x10.c, .int .u64 x11, .int .u64 x12, .int .i64 x13, .int .u64 x14, .int .u64 x15, .int .i64 x16, .int .i64 x17] 38 (0, 0))) ?_ ?_
  rotate_left
  · intro hCont
    have HBs := Aside0.mk (Below.refl ws.heap.size ws)
    refine two_ (i := 0) (j := 5) (Ni := some 67) (Nj := some 72) #[true, true, true, false, true, false, false, false, false] #[false, true, true, false, true, true, false, false, false] rfl rfl rfl rfl (by kernel_rfl) (by decide) (by decide) (fun K hK => ?_) (fun K hK => ?_)
    · refine Kd.R_lit_step k38 _ 38 ?hg (N := 67) ?hd (xs := ([] : List S38)) (inner := []) (ok := fun _ => True) (okp := fun _ => True) ?hr ?hp (fun _ hk => hk) trivial (Below.refl _ _) (Nat.le_refl _) (by simp) ?_; (case hd => rfl); (case hg => rfl); (case hr => first | (go_simp; done) | (go_simp; rfl)); (case hp => exact (Reps.none _ _))
      intro v0 wa ho hb hg hnew
      have V0 := Aside0.mk (Kd.R_lower ho HBs.out.size)
      have V0N := Aside0.mk hnew
      have HBa := Aside0.mk (below_step HBs.out hb)
      clear ho hb hg hnew
      refine hK.out _ _ (HSK.out _ HBa.out) (fun hHeld => ?_)
      clear hK K
      refine norm_ (a' := ?_) ?_ ?_
      rotate_left
      · show Act.put _ (some 67) _ = _
        simp only [Act.put, List.setIfInBounds_toArray, List.set_cons_zero, List.set_cons_succ, i64_w, i32_w]
        rfl
      refine two_ (i := 3) (j := 5) (Ni := some 70) (Nj := some 72) #[true, true, true, true, true, false, false, false, false] #[true, true, true, false, true, true, false, false, false] rfl rfl rfl rfl (by kernel_rfl) (by decide) (by decide) (fun K hK => ?_) (fun K hK => ?_)
      · refine Kd.R_append_rows_step k38 (w0 := ws) ws.heap.size (by rfl) (.tmp 67) (.tmp 69) 26 38 (.agg #[(.int .i64 0), (.string ⟨#[]⟩), (.int .u32 0), (.int .u64 0), (.bool false), (.bool false), (.int .u64 0), (.int .u64 0), (.int .i64 0), (.int .u64 0), (.slice none 0 0), (.int .u64 0), (.int .u64 0), (.int .i64 0), (.int .u64 0), (.int .u64 0), (.int .i64 0), (.int .i64 0)]) 160 rfl Try.underlying26 info38 rfl (by decide) (by omega) v0 ([] : List S38) l _ _ _ (fun _ => True) (fun _ => False) rfl rfl ?aO ?aR (fun _ _ h => h) (fun _ h => h.elim) (fun _ _ => trivial) HBa.out HBa.out.size ?aL ?_
        (case aR => exact C38_below HCS.out HBa.out)
        (case aO => exact V0.out)
        (case aL => first | (simp; done) | (have := HLEN.out; simp only [List.length_nil]; omega))
        intro v1 wb ho hb hg hat
        rw [List.nil_append] at ho
        have V1 := Aside0.mk ho
        have HBb := Aside0.mk hb
        clear ho hb hg hat
        refine hK.out _ _ (HSK.out _ HBb.out) (fun hHeld => ?_)
        clear hK K
        refine norm_ (a' := ?_) ?_ ?_
        rotate_left
        · show Act.put _ (some 70) _ = _
          simp only [Act.put, List.setIfInBounds_toArray, List.set_cons_zero, List.set_cons_succ, i64_w, i32_w]
          rfl
        refine one_ (i := 5) (N := some 72) #[true, true, true, true, true, true, false, false, false] rfl rfl (by kernel_rfl) (by decide) (fun K hK => ?_)
        have KX := Aside0.mk (heap_alloc_new wb (.cells #[.int .i64 x0, .string x1, .int .u32 x2, .int .u64 x3, .bool x4, .bool x5, .int .u64 x6, .int .u64 x7, .int .i64 x8, .int .u64 x9, .slice x10.A x10.n x10.c, .int .u64 x11, .int .u64 x12, .int .i64 x13, .int .u64 x14, .int .u64 x15, .int .i64 x16, .int .i64 x17] 38))
        have HXb := Aside0.mk (show Below wb.heap.size wb (wb.alloc (.cells #[.int .i64 x0, .string x1, .int .u32 x2, .int .u64 x3, .bool x4, .bool x5, .int .u64 x6, .int .u64 x7, .int .i64 x8, .int .u64 x9, .slice x10.A x10.n x10.c, .int .u64 x11, .int .u64 x12, .int .i64 x13, .int .u64 x14, .int .u64 x15, .int .i64 x16, .int .i64 x17] 38)) from below_alloc (Below.refl _ _) _)
        have HBc := Aside0.mk (below_step HBb.out HXb.out)
        refine val_ (w1 := wb.alloc (.cells #[.int .i64 x0, .string x1, .int .u32 x2, .int .u64 x3, .bool x4, .bool x5, .int .u64 x6, .int .u64 x7, .int .i64 x8, .int .u64 x9, .slice x10.A x10.n x10.c, .int .u64 x11, .int .u64 x12, .int .i64 x13, .int .u64 x14, .int .u64 x15, .int .i64 x16, .int .i64 x17] 38)) (v := .slice (some ⟨wb.heap.size, 0, none⟩) 1 1) (by rfl) (by first | (go_simp; done) | (go_simp; rfl)) ?_
        have V1' := Aside0.mk (Kd.R_move (Kd.R_bound V1.out) (fun k hk => HXb.out.block k hk.2.2.1))
        refine hK.out _ _ (HSK.out _ HBc.out) (fun hHeld => ?_)
        clear hK K
        refine norm_ (a' := ?_) ?_ ?_
        rotate_left
        · show Act.put _ (some 72) _ = _
          simp only [Act.put, List.setIfInBounds_toArray, List.set_cons_zero, List.set_cons_succ, i64_w, i32_w]
          rfl
        obtain ⟨kx, hkx⟩ : ∃ kx, kx = wb.heap.size := ⟨_, rfl⟩
        rw [← hkx] at KX ⊢
        clear hkx
        generalize wb.alloc (.cells #[.int .i64 x0, .string x1, .int .u32 x2, .int .u64 x3, .bool x4, .bool x5, .int .u64 x6, .int .u64 x7, .int .i64 x8, .int .u64 x9, .slice x10.A x10.n x10.c, .int .u64 x11, .int .u64 x12, .int .i64 x13, .int .u64 x14, .int .u64 x15, .int .i64 x16, .int .i64 x17] 38) = wc at KX HXb HBc V1' hHeld ⊢
        exact norm_ (by simp only [putAll, Act.put, List.setIfInBounds_toArray, List.set_cons_zero, List.set_cons_succ]) (hCont (v0, v1, .slice (some ⟨kx, 0, none⟩) 1 1) _ ⟨HBc.out, Kd.R_mono V1'.out (fun _ _ => trivial), kx, rfl, KX.out⟩)
      · have KX := Aside0.mk (heap_alloc_new wa (.cells #[.int .i64 x0, .string x1, .int .u32 x2, .int .u64 x3, .bool x4, .bool x5, .int .u64 x6, .int .u64 x7, .int .i64 x8, .int .u64 x9, .slice x10.A x10.n x10.c, .int .u64 x11, .int .u64 x12, .int .i64 x13, .int .u64 x14, .int .u64 x15, .int .i64 x16, .int .i64 x17] 38))
        have HXb := Aside0.mk (show Below wa.heap.size wa (wa.alloc (.cells #[.int .i64 x0, .string x1, .int .u32 x2, .int .u64 x3, .bool x4, .bool x5, .int .u64 x6, .int .u64 x7, .int .i64 x8, .int .u64 x9, .slice x10.A x10.n x10.c, .int .u64 x11, .int .u64 x12, .int .i64 x13, .int .u64 x14, .int .u64 x15, .int .i64 x16, .int .i64 x17] 38)) from below_alloc (Below.refl _ _) _)
        have HBb := Aside0.mk (below_step HBa.out HXb.out)
        refine val_ (w1 := wa.alloc (.cells #[.int .i64 x0, .string x1, .int .u32 x2, .int .u64 x3, .bool x4, .bool x5, .int .u64 x6, .int .u64 x7, .int .i64 x8, .int .u64 x9, .slice x10.A x10.n x10.c, .int .u64 x11, .int .u64 x12, .int .i64 x13, .int .u64 x14, .int .u64 x15, .int .i64 x16, .int .i64 x17] 38)) (v := .slice (some ⟨wa.heap.size, 0, none⟩) 1 1) (by rfl) (by first | (go_simp; done) | (go_simp; rfl)) ?_
        have V0' := Aside0.mk (Kd.R_move (Kd.R_bound V0.out) (fun k hk => HXb.out.block k hk.2.2.1))
        have VNE := Aside0.mk (show some wa.heap.size ≠ v0.ownBlock from fun e => by have := own_lt V0.out _ e.symm; omega)
        refine hK.out _ _ (HSK.out _ HBb.out) (fun hHeld => ?_)
        clear hK K
        refine norm_ (a' := ?_) ?_ ?_
        rotate_left
        · show Act.put _ (some 72) _ = _
          simp only [Act.put, List.setIfInBounds_toArray, List.set_cons_zero, List.set_cons_succ, i64_w, i32_w]
          rfl
        obtain ⟨kx, hkx⟩ : ∃ kx, kx = wa.heap.size := ⟨_, rfl⟩
        rw [← hkx] at KX VNE ⊢
        clear hkx
        generalize wa.alloc (.cells #[.int .i64 x0, .string x1, .int .u32 x2, .int .u64 x3, .bool x4, .bool x5, .int .u64 x6, .int .u64 x7, .int .i64 x8, .int .u64 x9, .slice x10.A x10.n x10.c, .int .u64 x11, .int .u64 x12, .int .i64 x13, .int .u64 x14, .int .u64 x15, .int .i64 x16, .int .i64 x17] 38) = wb at KX HXb HBb V0' hHeld ⊢
        refine one_ (i := 3) (N := some 70) #[true, true, true, true, true, true, false, false, false] rfl rfl (by kernel_rfl) (by decide) (fun K hK => ?_)
        refine Kd.R_append_rows_step k38 (w0 := ws) ws.heap.size (by rfl) (.tmp 67) (.tmp 69) 26 38 (.agg #[(.int .i64 0), (.string ⟨#[]⟩), (.int .u32 0), (.int .u64 0), (.bool false), (.bool false), (.int .u64 0), (.int .u64 0), (.int .i64 0), (.int .u64 0), (.slice none 0 0), (.int .u64 0), (.int .u64 0), (.int .i64 0), (.int .u64 0), (.int .u64 0), (.int .i64 0), (.int .i64 0)]) 160 rfl Try.underlying26 info38 rfl (by decide) (by omega) v0 ([] : List S38) l _ _ _ (fun _ => True) (fun _ => False) rfl rfl ?aO ?aR (fun _ _ h => h) (fun _ h => h.elim) (fun _ _ => trivial) HBb.out HBb.out.size ?aL ?_
        (case aR => exact C38_below HCS.out HBb.out)
        (case aO => exact (Kd.R_mono V0'.out (fun _ _ => trivial)))
        (case aL => first | (simp; done) | (have := HLEN.out; simp only [List.length_nil]; omega))
        intro v1 wc ho hb hg hat
        rw [List.nil_append] at ho
        have V1 := Aside0.mk ho
        have HBc := Aside0.mk hb
        have KX2 := Aside0.mk ((hg.block _ (blk_lt KX.out) VNE.out).trans KX.out)
        clear ho hb hg hat
        refine hK.out _ _ (HSK.out _ HBc.out) (fun hHeld => ?_)
        clear hK K
        refine norm_ (a' := ?_) ?_ ?_
        rotate_left
        · show Act.put _ (some 70) _ = _
          simp only [Act.put, List.setIfInBounds_toArray, List.set_cons_zero, List.set_cons_succ, i64_w, i32_w]
          rfl
        exact norm_ (by simp only [putAll, Act.put, List.setIfInBounds_toArray, List.set_cons_zero, List.set_cons_succ]) (hCont (v0, v1, .slice (some ⟨kx, 0, none⟩) 1 1) _ ⟨HBc.out, Kd.R_mono V1.out (fun _ _ => trivial), kx, rfl, KX2.out⟩)
    · have KX := Aside0.mk (heap_alloc_new ws (.cells #[.int .i64 x0, .string x1, .int .u32 x2, .int .u64 x3, .bool x4, .bool x5, .int .u64 x6, .int .u64 x7, .int .i64 x8, .int .u64 x9, .slice x10.A x10.n x10.c, .int .u64 x11, .int .u64 x12, .int .i64 x13, .int .u64 x14, .int .u64 x15, .int .i64 x16, .int .i64 x17] 38))
      have HXb := Aside0.mk (show Below ws.heap.size ws (ws.alloc (.cells #[.int .i64 x0, .string x1, .int .u32 x2, .int .u64 x3, .bool x4, .bool x5, .int .u64 x6, .int .u64 x7, .int .i64 x8, .int .u64 x9, .slice x10.A x10.n x10.c, .int .u64 x11, .int .u64 x12, .int .i64 x13, .int .u64 x14, .int .u64 x15, .int .i64 x16, .int .i64 x17] 38)) from below_alloc (Below.refl _ _) _)
      have HBa := Aside0.mk (below_step HBs.out HXb.out)
      refine val_ (w1 := ws.alloc (.cells #[.int .i64 x0, .string x1, .int .u32 x2, .int .u64 x3, .bool x4, .bool x5, .int .u64 x6, .int .u64 x7, .int .i64 x8, .int .u64 x9, .slice x10.A x10.n x10.c, .int .u64 x11, .int .u64 x12, .int .i64 x13, .int .u64 x14, .int .u64 x15, .int .i64 x16, .int .i64 x17] 38)) (v := .slice (some ⟨ws.heap.size, 0, none⟩) 1 1) (by rfl) (by first | (go_simp; done) | (go_simp; rfl)) ?_
      refine hK.out _ _ (HSK.out _ HBa.out) (fun hHeld => ?_)
      clear hK K
      refine norm_ (a' := ?_) ?_ ?_
      rotate_left
      · show Act.put _ (some 72) _ = _
        simp only [Act.put, List.setIfInBounds_toArray, List.set_cons_zero, List.set_cons_succ, i64_w, i32_w]
        rfl
      obtain ⟨kx, hkx⟩ : ∃ kx, kx = ws.heap.size := ⟨_, rfl⟩
      rw [← hkx] at KX ⊢
      clear hkx
      generalize ws.alloc (.cells #[.int .i64 x0, .string x1, .int .u32 x2, .int .u64 x3, .bool x4, .bool x5, .int .u64 x6, .int .u64 x7, .int .i64 x8, .int .u64 x9, .slice x10.A x10.n x10.c, .int .u64 x11, .int .u64 x12, .int .i64 x13, .int .u64 x14, .int .u64 x15, .int .i64 x16, .int .i64 x17] 38) = wa at KX HXb HBa hHeld ⊢
      refine one_ (i := 0) (N := some 67) #[true, true, true, false, true, true, false, false, false] rfl rfl (by kernel_rfl) (by decide) (fun K hK => ?_)
      refine Kd.R_lit_step k38 _ 38 ?hg (N := 67) ?hd (xs := ([] : List S38)) (inner := []) (ok := fun _ => True) (okp := fun _ => True) ?hr ?hp (fun _ hk => hk) trivial (Below.refl _ _) (Nat.le_refl _) (by simp) ?_; (case hd => rfl); (case hg => rfl); (case hr => first | (go_simp; done) | (go_simp; rfl)); (case hp => exact (Reps.none _ _))
      intro v0 wb ho hb hg hnew
      have V0 := Aside0.mk (Kd.R_lower ho HBa.out.size)
      have V0N := Aside0.mk hnew
      have HBb := Aside0.mk (below_step HBa.out hb)
      have KX' := Aside0.mk ((hb.block _ (blk_lt KX.out)).trans KX.out)
      have VNE := Aside0.mk (show some kx ≠ v0.ownBlock from fun e => by obtain ⟨b, e1, e2⟩ := hnew; rw [e1] at e; injection e with e; have := blk_lt KX.out; omega)
      clear ho hb hg hnew
      refine hK.out _ _ (HSK.out _ HBb.out) (fun hHeld => ?_)
      clear hK K
      refine norm_ (a' := ?_) ?_ ?_
      rotate_left
      · show Act.put _ (some 67) _ = _
        simp only [Act.put, List.setIfInBounds_toArray, List.set_cons_zero, List.set_cons_succ, i64_w, i32_w]
        rfl
      refine one_ (i := 3) (N := some 70) #[true, true, true, true, true, true, false, false, false] rfl rfl (by kernel_rfl) (by decide) (fun K hK => ?_)
      refine Kd.R_append_rows_step k38 (w0 := ws) ws.heap.size (by rfl) (.tmp 67) (.tmp 69) 26 38 (.agg #[(.int .i64 0), (.string ⟨#[]⟩), (.int .u32 0), (.int .u64 0), (.bool false), (.bool false), (.int .u64 0), (.int .u64 0), (.int .i64 0), (.int .u64 0), (.slice none 0 0), (.int .u64 0), (.int .u64 0), (.int .i64 0), (.int .u64 0), (.int .u64 0), (.int .i64 0), (.int .i64 0)]) 160 rfl Try.underlying26 info38 rfl (by decide) (by omega) v0 ([] : List S38) l _ _ _ (fun _ => True) (fun _ => False) rfl rfl ?aO ?aR (fun _ _ h => h) (fun _ h => h.elim) (fun _ _ => trivial) HBb.out HBb.out.size ?aL ?_
      (case aR => exact C38_below HCS.out HBb.out)
      (case aO => exact V0.out)
      (case aL => first | (simp; done) | (have := HLEN.out; simp only [List.length_nil]; omega))
      intro v1 wc ho hb hg hat
      rw [List.nil_append] at ho
      have V1 := Aside0.mk ho
      have HBc := Aside0.mk hb
      have KX'2 := Aside0.mk ((hg.block _ (blk_lt KX'.out) VNE.out).trans KX'.out)
      clear ho hb hg hat
      refine hK.out _ _ (HSK.out _ HBc.out) (fun hHeld => ?_)
      clear hK K
      refine norm_ (a' := ?_) ?_ ?_
      rotate_left
      · show Act.put _ (some 70) _ = _
        simp only [Act.put, List.setIfInBounds_toArray, List.set_cons_zero, List.set_cons_succ, i64_w, i32_w]
        rfl
      exact norm_ (by simp only [putAll, Act.put, List.setIfInBounds_toArray, List.set_cons_zero, List.set_cons_succ]) (hCont (v0, v1, .slice (some ⟨kx, 0, none⟩) 1 1) _ ⟨HBc.out, Kd.R_mono V1.out (fun _ _ => trivial), kx, rfl, KX'2.out⟩)
  rintro ⟨v0, v1, vx⟩ wj ⟨hbj, hv1, kx, hvx, hkx⟩
  simp only at hvx
  subst hvx
  have HBj := Aside0.mk hbj
  have VJ := Aside0.mk hv1
  have KJ := Aside0.mk hkx
  clear hbj hv1 hkx hHeld
  refine norm_ (a' := ?_) ?_ ?_
  rotate_left
  · show putAll _ _ = _
    simp only [putAll, Act.put, List.setIfInBounds_toArray, List.set_cons_zero, List.set_cons_succ]
    rfl
  refine one_ (i := 6) (N := some 73) #[true, true, true, true, true, true, true, false, false] rfl rfl (by kernel_rfl) (by decide) (fun K hK => ?_)
  refine Kd.R_append_rows_step k38 (w0 := ws) ws.heap.size (by rfl) (.tmp 70) (.tmp 72) 26 38 (.agg #[(.int .i64 0), (.string ⟨#[]⟩), (.int .u32 0), (.int .u64 0), (.bool false), (.bool false), (.int .u64 0), (.int .u64 0), (.int .i64 0), (.int .u64 0), (.slice none 0 0), (.int .u64 0), (.int .u64 0), (.int .i64 0), (.int .u64 0), (.int .u64 0), (.int .i64 0), (.int .i64 0)]) 160 rfl Try.underlying26 info38 rfl (by decide) (by omega) v1 l [(⟨x0, x1, x2, x3, x4, x5, ⟨⟨x6, ⟨x7, x8⟩, x9⟩, x10⟩, ⟨x11, ⟨x12, x13⟩, x14⟩, x15, x16, x17⟩ : S38)] _ _ _ (fun _ => True) (fun _ => False) rfl rfl VJ.out ?aR (fun _ _ h => h) (fun _ h => h.elim) (fun _ _ => trivial) HBj.out HBj.out.size ?aL ?_
  (case aR => exact C_of_blk38 (⟨x0, x1, x2, x3, x4, x5, ⟨⟨x6, ⟨x7, x8⟩, x9⟩, x10⟩, ⟨x11, ⟨x12, x13⟩, x14⟩, x15, x16, x17⟩ : S38) KJ.out)
  (case aL => first | (simp; done) | (have := HLEN.out; omega))
  intro v2 w6 ho hb hg hat
  rw [← HMM.out] at ho
  obtain ⟨A2, c2, rfl⟩ := Kd.R_slice ho
  have V2 := Aside0.mk ho
  have HB6 := Aside0.mk hb
  clear ho hb hg hat
  refine hK.out _ _ (HSK.out _ HB6.out) (fun hHeld => ?_)
  clear hK K
  refine norm_ (a' := ?_) ?_ ?_
  rotate_left
  · show Act.put _ (some 73) _ = _
    simp only [Act.put, List.setIfInBounds_toArray, List.set_cons_zero, List.set_cons_succ, i64_w, i32_w]
    rfl
  refine pure_ (i := 7) (N := some 74) (v := ?_) (a' := ?_) #[true, true, true, true, true, true, true, true, false] rfl rfl (by kernel_rfl) (fun _ _ _ h => h) (Or.inl ⟨by rfl, ?_⟩) ?_ ?_
  rotate_left
  · intro w'
    go_simp
    with_reducible rfl
  rotate_left
  · simp only [Act.put, List.setIfInBounds_toArray, List.set_cons_zero, List.set_cons_succ, i64_w, i32_w]
    rfl
  have R6 := Aside0.mk (show RG w w6 g1 g2 g3 #[.int .u64 a0, .slice (some ad) l.length c] #[.int .i64 x0, .string x1, .int .u32 x2, .int .u64 x3, .bool x4, .bool x5, .int .u64 x6, .int .u64 x7, .int .i64 x8, .int .u64 x9, .slice x10.A x10.n x10.c, .int .u64 x11, .int .u64 x12, .int .i64 x13, .int .u64 x14, .int .u64 x15, .int .i64 x16, .int .i64 x17] #[.int .u64 0, .slice none 0 0] from ⟨below_then RS.out.bel RS.out.bel.size HB6.out, (HB6.out.block _ HLT.out.1).trans RS.out.b1, (HB6.out.block _ HLT.out.2.1).trans RS.out.b2, (HB6.out.block _ HLT.out.2.2).trans RS.out.b3, RS.out.h1, RS.out.h2, RS.out.h3, RS.out.n13⟩)
  have s1 := cellAt (i := 1) R6.out.b1 rfl
  have f1 := blk_frozen R6.out.b1 1
  refine last_ (i := 8) (N := none) #[true, true, true, true, true, true, true, true, true] rfl rfl (by kernel_rfl) (by decide) (fun K hK => ?_)
  refine skip_ (w1 := ?_) (by rfl) rfl ?_ ?_
  rotate_left
  · go_simp
    rfl
  refine hK.out _ _ ?_
  clear hK K hHeld
  refine done_ (by kernel_rfl) ?_
  have R7 := Aside0.mk (show RG w (w6.setCell ⟨g1, 1, none⟩ (.slice A2 M.length c2)) g1 g2 g3 #[.int .u64 a0, .slice A2 M.length c2] #[.int .i64 x0, .string x1, .int .u32 x2, .int .u64 x3, .bool x4, .bool x5, .int .u64 x6, .int .u64 x7, .int .i64 x8, .int .u64 x9, .slice x10.A x10.n x10.c, .int .u64 x11, .int .u64 x12, .int .i64 x13, .int .u64 x14, .int .u64 x15, .int .i64 x16, .int .i64 x17] #[.int .u64 0, .slice none 0 0] from R6.out.set1 1 _)
  have V7 := Aside0.mk (Kd.R_set V2.out R6.out.b1 (by decide) 1 (.slice A2 M.length c2))
  clear s1 f1
  generalize w6.setCell ⟨g1, 1, none⟩ (.slice A2 M.length c2) = w7 at R7 V7 ⊢
  have p0 := cellAt (i := 0) R7.out.b1 rfl; have p1 := cellAt (i := 1) R7.out.b1 rfl
  go_wp2_with (first | (go_at_call 16; (with_reducible refine (consortref23_Whole.calls k a0 A2 c2 M z2 b2 _ (Kd.R_reads' V7.out).2.2 (Kd.R_reads' V7.out).2.1 HWH.out).mono ?_); rintro _ w8 ⟨rfl, hb⟩; have R8 := Aside0.mk (R7.out.below hb); have V8 := Aside0.mk (Kd.R_mono (Kd.R_move (Kd.R_bound V7.out) (fun k hk => hb.block k hk.2.2.1)) (ok' := fun _ => True) (fun _ _ => trivial)); clear p0 p1; have p0 := cellAt (i := 0) R8.out.b1 rfl; have p1 := cellAt (i := 1) R8.out.b1 rfl; have r0 := cellAt (i := 0) R8.out.b3 rfl; have r1 := cellAt (i := 1) R8.out.b3 rfl; have f0 := blk_frozen R8.out.b3 0; have f1 := blk_frozen R8.out.b3 1; clear hb))
  refine bodyPost_ret (results_ct rfl rfl rfl (run_loadVar_row (P := Try.prog) _ g3 54 54 _ (0, 0) _ ((R8.out.set3 0 (.int .u64 a0)).set3 1 (.slice A2 M.length c2)).b3 Try.underlying54 rfl (by kernel_rfl))) rfl ?_
  exact ⟨A2, c2, rfl, Kd.R_lower (Kd.R_set (Kd.R_set V8.out R8.out.b3 (by decide) 0 (.int .u64 a0)) (R8.out.set3 0 (.int .u64 a0)).b3 (by decide) 1 (.slice A2 M.length c2)) RS.out.bel.size, ((R8.out.set3 0 (.int .u64 a0)).set3 1 (.slice A2 M.length c2)).bel⟩
end Go.Proofs.Ytgpldjckohlkfaa.P
