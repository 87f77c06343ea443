import Derived.Test.YtlkemknhmfjdpaaHandV1
import Derived.Test.YtlkemknhmfjdpaaHandP
/- Parse, by hand: its panics are caught. -/
namespace Go.Proofs.Ytlkemknhmfjdpaa.P
open Go.RowKit Go.Proofs.YtlkemknhmfjdpaaW.PrintWords Go.Proofs.YtlkemknhmfjdpaaW.PrintLast Go.Proofs.YtlkemknhmfjdpaaW.PrintMore
attribute [local go_sem] max2_int min2_int max_two min_two max_three min_three max_four min_four
set_option linter.unusedVariables false
set_option linter.unusedSimpArgs false

/-! ### The store of a whole block, in one step -/
structure Put1 (W w' : World) (g : Nat) (cs : Array Value) (t : TypeId) : Prop where
  at_ : w'.heap[g]? = some (.cells cs t (0, 0))
  far : ∀ k, k ≠ g → w'.heap[k]? = W.heap[k]?
  size : w'.heap.size = W.heap.size
  bel : ∀ W0 : World, Below W0.heap.size W0 W → W0.heap.size ≤ g → Below W0.heap.size W0 w'
theorem put1_row {W : World} {g : Nat} {old cs : Array Value} {t : TypeId} (hg : W.heap[g]? = some (.cells old t (0, 0))) : Put1 W (W.setRow g cs) g cs t :=
  ⟨setRow_heap W g old cs t (0, 0) hg, fun k hk => setRow_other W g k cs hk, setRow_size W g cs, fun W0 hb hle => ⟨hb.os, hb.tape, hb.output, by rw [setRow_size]; exact hb.size, fun i hi => (setRow_other W g i cs (by omega)).trans (hb.block i hi)⟩⟩
theorem store_row_event {P : Program} {ops : Array Oper} {rest : List Oper} {o : Oper} {a : Act} {Q : Exit → Act → World → Prop} {W : World} (hgd : o.guard = none) {ty : TypeId} {p : Tmp} {y : Operand} (ho : o.op = .store ty (.tmp p) y) (hN : o.dst = none)
    (g : Nat) (cells : Array Value) (hx : a.eval (.tmp p) = .pointer (some ⟨g, 0, none⟩)) (hy : a.eval y = .agg cells) (t : TypeId) (old : Array Value) (hg : W.heap[g]? = some (.cells old t (0, 0))) (hi : (P.info? ty).map (·.size) = some cells.size)
    (hold : old.size = cells.size) (h1 : cells.all (·.oneCell') = true) (h : ∀ w', Put1 W w' g cells t → wpList P ops Q rest a w') : wpList P ops Q (o :: rest) a W := by
  refine wpList_plain hgd fun K hK => ?_
  refine wp_store_row ty (.tmp p) y ho g cells hx hy t old hg hi hold h1 ?_
  rw [hN]
  exact hK _ _ (h _ (put1_row hg))
theorem wpList_build0 {P : Program} {ops : Array Oper} {rest : List Oper} {o : Oper} {a : Act} {w : World} {Q : Exit → Act → World → Prop} (hg : o.guard = none) (t : TypeId) (ho : o.op = .build t #[]) (cells : Array Value)
    (hb : P.built t [] = some cells) (h : wpList P ops Q rest (a.put o.dst (.agg cells)) w) : wpList P ops Q (o :: rest) a w := by
  refine wpList_build hg t #[] ho ?_ ?_
  · simp [hb]
  · simpa [hb] using h
set_option maxHeartbeats 8000000 in
set_option maxRecDepth 100000 in
theorem parseItem_catch (b0 b1 : Nat) (old : Array Value) (hold : old.size = 18) (y c : Int) (hc : c ≠ 0) (w : World) (h0 : w.heap[b0]? = some (.cells old 34 (0, 0))) (h1 : w.heap[b1]? = some (.cells #[.int .i64 y] 36 (0, 0))) :
    CallsD Try.prog 33 #[.pointer (some ⟨b0, 0, none⟩), .pointer (some ⟨b1, 0, none⟩)] (.panicking ({ v := .iface 36 (.int .i64 c), recovered := false } :: [])) w fun e u' w' =>
      e = .returned (.tuple #[]) ∧ u' = .panicking ({ v := .iface 36 (.int .i64 c), recovered := true } :: []) ∧ w'.heap[b0]? = some (.cells #[.int .i64 0, .string ⟨#[]⟩, .int .u32 0, .int .u64 0, .bool false, .bool false, .int .u64 0, .int .u64 0, .int .i64 0, .int .u64 0, .slice none 0 0, .int .u64 0, .int .u64 0, .int .i64 0, .int .u64 0, .int .u64 0, .int .i64 0, .int .i64 0] 34 (0, 0)) ∧ w'.heap[b1]? = some (.cells #[.int .i64 c] 36 (0, 0)) ∧ ∀ W0 : World, Below W0.heap.size W0 w → W0.heap.size ≤ b0 → W0.heap.size ≤ b1 → Below W0.heap.size W0 w' := by
  have n1 : b1 ≠ b0 := blk_ne h1 h0 (by decide)
  have hb : (c != 0) = true := bne_iff_ne.mpr hc
  have H0 := Aside0.mk h0
  have H1 := Aside0.mk h1
  have N1 := Aside0.mk n1
  have HO := Aside0.mk hold
  clear h0 h1 n1 hc hold
  refine callsD_of_wpS Try.func33 rfl fun c₀ cs hu => ?_
  apply wpS_seq
  apply wpS_region
  simp [wpOpsS, go_sem, recoverD, hu, Try.ntmps33, Exit.thenS]
  refine (caught_err c _).mono ?_
  rintro e w' ⟨rfl, rfl⟩
  change Code.wpS _ _ _ { tmps := #[.pointer (some ⟨b0, 0, none⟩), .pointer (some ⟨b1, 0, none⟩), .int .i64 c, .iface 36 (.int .i64 c), .int .i64 c, undef, undef, undef, undef], defers := [] } _ _
  apply wpS_seq
  apply wpS_region
  simp [wpOpsS, go_sem, Exit.thenS, hb]
  refine wpS_cond (t := true) (by simp [Act.eval]) ?_
  simp only [if_true]
  refine wpS_of_wp ?_
  have hb34 : Try.prog.built 34 [] = some #[.int .i64 0, .string ⟨#[]⟩, .int .u32 0, .int .u64 0, .bool false, .bool false, .int .u64 0, .int .u64 0, .int .i64 0, .int .u64 0, .slice none 0 0, .int .u64 0, .int .u64 0, .int .i64 0, .int .u64 0, .int .u64 0, .int .i64 0, .int .i64 0] := by kernel_rfl
  refine wp_region_lit ?_
  refine wpList_build0 rfl 34 rfl _ hb34 ?_
  change wpList _ _ _ _ { tmps := #[.pointer (some ⟨b0, 0, none⟩), .pointer (some ⟨b1, 0, none⟩), .int .i64 c, .iface 36 (.int .i64 c), .int .i64 c, .int .i64 c, .bool true, .agg #[.int .i64 0, .string ⟨#[]⟩, .int .u32 0, .int .u64 0, .bool false, .bool false, .int .u64 0, .int .u64 0, .int .i64 0, .int .u64 0, .slice none 0 0, .int .u64 0, .int .u64 0, .int .i64 0, .int .u64 0, .int .u64 0, .int .i64 0, .int .i64 0], undef], defers := [] } _
  clear hb34
  refine Kd.event_run (w1 := w) (v := .int .i64 c) rfl (by rfl) ?_
  change wpList _ _ _ _ { tmps := #[.pointer (some ⟨b0, 0, none⟩), .pointer (some ⟨b1, 0, none⟩), .int .i64 c, .iface 36 (.int .i64 c), .int .i64 c, .int .i64 c, .bool true, .agg #[.int .i64 0, .string ⟨#[]⟩, .int .u32 0, .int .u64 0, .bool false, .bool false, .int .u64 0, .int .u64 0, .int .i64 0, .int .u64 0, .slice none 0 0, .int .u64 0, .int .u64 0, .int .i64 0, .int .u64 0, .int .u64 0, .int .i64 0, .int .i64 0], .int .i64 c], defers := [] } _
  refine store_row_event rfl (ty := 34) (p := 0) rfl rfl b0 #[.int .i64 0, .string ⟨#[]⟩, .int .u32 0, .int .u64 0, .bool false, .bool false, .int .u64 0, .int .u64 0, .int .i64 0, .int .u64 0, .slice none 0 0, .int .u64 0, .int .u64 0, .int .i64 0, .int .u64 0, .int .u64 0, .int .i64 0, .int .i64 0] rfl rfl 34 old H0.out (by kernel_rfl) HO.out (by simp [Value.oneCell']) ?_
  intro w7 h7
  have P7 := Aside0.mk h7
  have K1 := Aside0.mk ((h7.far b1 N1.out).trans H1.out)
  have d0 := cellAt (i := 0) K1.out rfl
  have g0 := blk_frozen K1.out 0
  clear h7
  go_wp2
  refine ⟨rfl, _, rfl, .tuple #[], by simp [results, Try.results33], rfl, rfl, ?_, ?_, ?_⟩
  · exact blk_far (p := ⟨b1, 0, none⟩) P7.out.at_ (fun e => N1.out e.symm) (.int .i64 c)
  · exact blk_set K1.out 0 (.int .i64 c)
  · intro W0 hB hb0 hb1
    exact below_set (P7.out.bel W0 hB hb0) hb1
set_option maxHeartbeats 4000000 in
theorem parseItem_idle (b0 b1 : Nat) (w : World) :
    CallsD Try.prog 33 #[.pointer (some ⟨b0, 0, none⟩), .pointer (some ⟨b1, 0, none⟩)] .returning w fun e u' w' => e = .returned (.tuple #[]) ∧ u' = .returning ∧ w' = w := by
  refine callsD_of_wpS Try.func33 rfl fun c₀ cs hu => ?_
  apply wpS_seq
  apply wpS_region
  simp [wpOpsS, go_sem, recoverD, hu, Try.ntmps33, Exit.thenS]
  refine (caught_nil _).mono ?_
  rintro e w' ⟨rfl, rfl⟩
  refine wpS_of_wp ?_
  change Code.wp _ _ _ { tmps := #[.pointer (some ⟨b0, 0, none⟩), .pointer (some ⟨b1, 0, none⟩), .int .i64 0, .nilIface, .int .i64 0, undef, undef, undef, undef], defers := [] } _
  go_wp2
  exact ⟨rfl, .returning, by rw [← hu], .tuple #[], by simp [results, Try.results33], rfl, rfl, rfl⟩
end Go.Proofs.Ytlkemknhmfjdpaa.P
