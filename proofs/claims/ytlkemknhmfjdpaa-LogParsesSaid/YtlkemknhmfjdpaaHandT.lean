import Derived.Test.YtlkemknhmfjdpaaHandR
import Derived.Deep.LoopGhost
/- The log's reader, by hand: views that are given up. -/
namespace Go.Proofs.Ytlkemknhmfjdpaa.P
open Go.RowKit Go.Proofs.YtlkemknhmfjdpaaW.PrintWords Go.Proofs.YtlkemknhmfjdpaaW.PrintLast Go.Proofs.YtlkemknhmfjdpaaW.PrintMore
attribute [local go_sem] max2_int min2_int max_two min_two max_three min_three max_four min_four
set_option linter.unusedVariables false
set_option linter.unusedSimpArgs false
/-- A call that panics. -/
theorem goesP_ {P : Program} {ops : Array Oper} {Q : Exit → Act → World → Prop} {oi : Oper} {N : Option Tmp} {a : Act} {w : World} {K : Act → World → Prop} {f : FuncId} {fn : Func} {as_ : Array Operand} {ts : Array TypeId} (hf : P.funcs[f]? = some fn) (hname : (fn.name == "runtime.NumGoroutine") = false) (hb : fn.body.isSome = true) (args : Array Value)
    (hw : Region.wanted oi (yielded ops a.tmps) = true) (hN : oi.dst = N) (hop : oi.op = .call { callee := .value (.func f), args := as_, argTypes := ts }) (hargs : as_.map a.eval = args)
    (h : Calls P f args w fun e w' => ∃ c, e = .panicked c ∧ Q (.panic c) a w') : if Region.wanted oi (yielded ops a.tmps) = true then Oper.wp P oi a w K Q else K (a.put N undef) w := by
  rw [if_pos hw]
  have he := enters_ hf hname hb args w
  have hrun : (execOp a.eval oi).run P w = .ok (.enter f args) w := by
    unfold execOp
    simp [hop, resolve, Deferred.ofValue, invoke, Act.eval, hargs, he]
  unfold Oper.wp
  rw [hrun, Oper.upon_enter]
  refine h.mono fun e w'' hh => ?_
  obtain ⟨c, rfl, hk⟩ := hh
  exact hk
set_option maxHeartbeats 8000000 in
set_option maxRecDepth 100000 in
theorem reader_view_short1 (g : Nat) (s : ByteArray) (p : Int) (w0 w : World) (hI : IsS93 w0 w g s p) (hB : Below w0.heap.size w0 w) (h0 : 0 ≤ p) (hs : s.size ≤ 1000000) (h1 : p ≤ s.size) (h2 : s.size < p + 8) :
    Calls Try.prog 34 #[.agg #[.pointer (some ⟨g, 0, none⟩)]] w fun e w' => e = gives 2 ∧ Below w0.heap.size w0 w' ∧ KeepBut w w' g none := by
  have HG := Aside0.mk (IsS93.lt hI)
  have HV0 := Aside0.mk (VS.start (w := w) hI hB)
  have HN := Aside0.mk (show 0 ≤ p ∧ (p ≤ s.size ∧ s.size < p + 8) ∧ s.size ≤ 1000000 from ⟨h0, by omega, hs⟩)
  clear hI hB h0 hs h1 h2
  go_enter Try.func34, Try.ntmps34
  go_wp2_with (go_at_call 27; (with_reducible refine (reader_num_bad g s p 8 w0 (vW w g) HV0.out.rd HV0.out.bel HN.out.1 (by have := HN.out; omega) (by have := HN.out; omega) (by omega) (by omega) HN.out.2.2).mono ?_); rintro e w3 ⟨rfl, hb, hk⟩; have HB := Aside0.mk hb; have HK := Aside0.mk (HV0.out.keep.trans hk (.inl rfl)); clear hb hk)
  exact ⟨rfl, rfl, HB.out, HK.out⟩
set_option maxHeartbeats 8000000 in
set_option maxRecDepth 100000 in
theorem reader_view_short2 (g : Nat) (s : ByteArray) (p : Int) (w0 w : World) (hI : IsS93 w0 w g s p) (hB : Below w0.heap.size w0 w) (h0 : 0 ≤ p) (hs : s.size ≤ 1000000) (h1 : p + 8 ≤ s.size) (h2 : s.size < p + 16) :
    Calls Try.prog 34 #[.agg #[.pointer (some ⟨g, 0, none⟩)]] w fun e w' => e = gives 2 ∧ Below w0.heap.size w0 w' ∧ KeepBut w w' g none := by
  have HG := Aside0.mk (IsS93.lt hI)
  have HV0 := Aside0.mk (VS.start (w := w) hI hB)
  have HN := Aside0.mk (show 0 ≤ p ∧ (p + 8 ≤ s.size ∧ s.size < p + 16) ∧ s.size ≤ 1000000 from ⟨h0, by omega, hs⟩)
  obtain ⟨x0, hx0⟩ : ∃ x, x = numAt s p 8 := ⟨_, rfl⟩
  have HX0 := Aside0.mk hx0
  clear hI hB h0 hs h1 h2 hx0
  go_enter Try.func34, Try.ntmps34
  go_wp2_with (go_at_call 27; (with_reducible refine (reader_num g s p 8 w0 (vW w g) HV0.out.rd HV0.out.bel HN.out.1 (by have := HN.out; omega) (by omega) (by omega) HN.out.2.2).mono ?_); rintro e w3 ⟨rfl, hi, hb, hk⟩; rw [← HX0.out]; have HV1 := Aside0.mk (HV0.out.call HG.out hi hb hk); clear hi hb hk)
  have HV2 := Aside0.mk (VS.below HV1.out HG.out (W1 := (w3.alloc (.cells #[.int .u64 x0, .int .u64 0, .int .i64 0, .int .u64 0] 27)).drew) (below_drew (below_alloc (Below.refl _ _) _)))
  have HT2 := Aside0.mk (show ((w3.alloc (.cells #[.int .u64 x0, .int .u64 0, .int .i64 0, .int .u64 0] 27)).drew).heap[w3.heap.size]? = _ from heap_alloc_new w3 _)
  have HTN := Aside0.mk (show w3.heap.size ≠ g by have := HV1.out.keep.1; have := HG.out; omega)
  have r0 := cellAt (i := 0) HV2.out.b0 rfl
  refine start_ (n := 13) (S := fun w' => w'.cell? ⟨w.heap.size, 0, none⟩ = some (.pointer (some ⟨g, 0, none⟩))) (ds := [9, 12]) #[false, false, false, false, false, false, false, false, false, false, false, false, false] (by kernel_rfl) rfl rfl r0 (fun hHeld => ?_)
  refine pure_ (i := 0) (N := some 8) (v := ?_) (a' := ?_) #[true, false, false, false, false, false, false, false, false, false, false, false, false] rfl rfl (by kernel_rfl) (fun _ _ _ h => h) (Or.inl ⟨by rfl, ?_⟩) ?_ ?_
  rotate_left
  · intro w'
    go_simp
    with_reducible rfl
  rotate_left
  · simp only [Act.put, List.setIfInBounds_toArray, List.set_cons_zero, List.set_cons_succ, i64_w, i32_w]
    rfl
  refine take_ (i := 1) (N := some 9) (v := ?_) (a' := ?_) #[true, true, false, false, false, false, false, false, false, false, false, false, false] rfl rfl (by kernel_rfl) (fun _ _ _ h => h) (Or.inl ⟨by rfl, ?_⟩) hHeld ?_ ?_
  rotate_left
  · rintro w' s0
    go_simp
    with_reducible rfl
  rotate_left
  · simp only [Act.put, List.setIfInBounds_toArray, List.set_cons_zero, List.set_cons_succ, i64_w, i32_w]
    rfl
  refine pure_ (i := 3) (N := some 11) (v := ?_) (a' := ?_) #[true, true, false, true, false, false, false, false, false, false, false, false, false] rfl rfl (by kernel_rfl) (fun _ _ _ h => h) (Or.inl ⟨by rfl, ?_⟩) ?_ ?_
  rotate_left
  · intro w'
    go_simp
    with_reducible rfl
  rotate_left
  · simp only [Act.put, List.setIfInBounds_toArray, List.set_cons_zero, List.set_cons_succ, i64_w, i32_w]
    rfl
  refine take_ (i := 4) (N := some 12) (v := ?_) (a' := ?_) #[true, true, false, true, true, false, false, false, false, false, false, false, false] rfl rfl (by kernel_rfl) (fun _ _ _ h => h) (Or.inl ⟨by rfl, ?_⟩) hHeld ?_ ?_
  rotate_left
  · rintro w' s0
    go_simp
    with_reducible rfl
  rotate_left
  · simp only [Act.put, List.setIfInBounds_toArray, List.set_cons_zero, List.set_cons_succ, i64_w, i32_w]
    rfl
  refine one_ (i := 2) (N := some 10) #[true, true, true, true, true, false, false, false, false, false, false, false, false] rfl rfl (by kernel_rfl) (by decide) (fun K hK => ?_)
  refine goesP_ Try.func27 (by kernel_rfl) rfl #[.pointer (some ⟨g, 0, none⟩), .int .i64 8] (by rfl) rfl rfl (by (try simp only [List.map_toArray, List.map_cons, List.map_nil]); first | done | rfl) ?_
  with_reducible refine (reader_num_bad g s (p + 8) 8 w0 _ HV2.out.rd HV2.out.bel (by have := HN.out; omega) (by have := HN.out; omega) (by have := HN.out; omega) (by omega) (by omega) HN.out.2.2).mono ?_
  rintro e w4 ⟨rfl, hb, hk⟩
  exact ⟨_, rfl, rfl, rfl, hb, HV2.out.keep.trans hk (.inl rfl)⟩
set_option maxHeartbeats 8000000 in
set_option maxRecDepth 100000 in
theorem reader_view_short3 (g : Nat) (s : ByteArray) (p : Int) (w0 w : World) (hI : IsS93 w0 w g s p) (hB : Below w0.heap.size w0 w) (h0 : 0 ≤ p) (hs : s.size ≤ 1000000) (h1 : p + 16 ≤ s.size) (h2 : s.size < p + 17) :
    Calls Try.prog 34 #[.agg #[.pointer (some ⟨g, 0, none⟩)]] w fun e w' => e = gives 2 ∧ Below w0.heap.size w0 w' ∧ KeepBut w w' g none := by
  have HG := Aside0.mk (IsS93.lt hI)
  have HV0 := Aside0.mk (VS.start (w := w) hI hB)
  have HN := Aside0.mk (show 0 ≤ p ∧ (p + 16 ≤ s.size ∧ s.size < p + 17) ∧ s.size ≤ 1000000 from ⟨h0, by omega, hs⟩)
  obtain ⟨x0, hx0⟩ : ∃ x, x = numAt s p 8 := ⟨_, rfl⟩
  have HX0 := Aside0.mk hx0
  obtain ⟨x1, hx1⟩ : ∃ x, x = numAt s (p + 8) 8 := ⟨_, rfl⟩
  have HX1 := Aside0.mk hx1
  clear hI hB h0 hs h1 h2 hx0 hx1
  go_enter Try.func34, Try.ntmps34
  go_wp2_with (go_at_call 27; (with_reducible refine (reader_num g s p 8 w0 (vW w g) HV0.out.rd HV0.out.bel HN.out.1 (by have := HN.out; omega) (by omega) (by omega) HN.out.2.2).mono ?_); rintro e w3 ⟨rfl, hi, hb, hk⟩; rw [← HX0.out]; have HV1 := Aside0.mk (HV0.out.call HG.out hi hb hk); clear hi hb hk)
  have HV2 := Aside0.mk (VS.below HV1.out HG.out (W1 := (w3.alloc (.cells #[.int .u64 x0, .int .u64 0, .int .i64 0, .int .u64 0] 27)).drew) (below_drew (below_alloc (Below.refl _ _) _)))
  have HT2 := Aside0.mk (show ((w3.alloc (.cells #[.int .u64 x0, .int .u64 0, .int .i64 0, .int .u64 0] 27)).drew).heap[w3.heap.size]? = _ from heap_alloc_new w3 _)
  have HTN := Aside0.mk (show w3.heap.size ≠ g by have := HV1.out.keep.1; have := HG.out; omega)
  have r0 := cellAt (i := 0) HV2.out.b0 rfl
  refine start_ (n := 13) (S := fun w' => w'.cell? ⟨w.heap.size, 0, none⟩ = some (.pointer (some ⟨g, 0, none⟩))) (ds := [9, 12]) #[false, false, false, false, false, false, false, false, false, false, false, false, false] (by kernel_rfl) rfl rfl r0 (fun hHeld => ?_)
  refine pure_ (i := 0) (N := some 8) (v := ?_) (a' := ?_) #[true, false, false, false, false, false, false, false, false, false, false, false, false] rfl rfl (by kernel_rfl) (fun _ _ _ h => h) (Or.inl ⟨by rfl, ?_⟩) ?_ ?_
  rotate_left
  · intro w'
    go_simp
    with_reducible rfl
  rotate_left
  · simp only [Act.put, List.setIfInBounds_toArray, List.set_cons_zero, List.set_cons_succ, i64_w, i32_w]
    rfl
  refine take_ (i := 1) (N := some 9) (v := ?_) (a' := ?_) #[true, true, false, false, false, false, false, false, false, false, false, false, false] rfl rfl (by kernel_rfl) (fun _ _ _ h => h) (Or.inl ⟨by rfl, ?_⟩) hHeld ?_ ?_
  rotate_left
  · rintro w' s0
    go_simp
    with_reducible rfl
  rotate_left
  · simp only [Act.put, List.setIfInBounds_toArray, List.set_cons_zero, List.set_cons_succ, i64_w, i32_w]
    rfl
  refine pure_ (i := 3) (N := some 11) (v := ?_) (a' := ?_) #[true, true, false, true, false, false, false, false, false, false, false, false, false] rfl rfl (by kernel_rfl) (fun _ _ _ h => h) (Or.inl ⟨by rfl, ?_⟩) ?_ ?_
  rotate_left
  · intro w'
    go_simp
    with_reducible rfl
  rotate_left
  · simp only [Act.put, List.setIfInBounds_toArray, List.set_cons_zero, List.set_cons_succ, i64_w, i32_w]
    rfl
  refine take_ (i := 4) (N := some 12) (v := ?_) (a' := ?_) #[true, true, false, true, true, false, false, false, false, false, false, false, false] rfl rfl (by kernel_rfl) (fun _ _ _ h => h) (Or.inl ⟨by rfl, ?_⟩) hHeld ?_ ?_
  rotate_left
  · rintro w' s0
    go_simp
    with_reducible rfl
  rotate_left
  · simp only [Act.put, List.setIfInBounds_toArray, List.set_cons_zero, List.set_cons_succ, i64_w, i32_w]
    rfl
  refine one_ (i := 2) (N := some 10) #[true, true, true, true, true, false, false, false, false, false, false, false, false] rfl rfl (by kernel_rfl) (by decide) (fun K hK => ?_)
  refine goes_ Try.func27 (by kernel_rfl) rfl #[.pointer (some ⟨g, 0, none⟩), .int .i64 8] (by rfl) rfl rfl (by (try simp only [List.map_toArray, List.map_cons, List.map_nil]); first | done | rfl) ?_
  with_reducible refine (reader_num g s (p + 8) 8 w0 _ HV2.out.rd HV2.out.bel (by have := HN.out; omega) (by have := HN.out; omega) (by omega) (by omega) HN.out.2.2).mono ?_
  rintro e w4 ⟨rfl, hi, hb, hk⟩
  refine ⟨_, rfl, ?_⟩
  have HV3 := Aside0.mk (HV2.out.call HG.out (show IsS93 w0 w4 g s (p + 16) by rwa [show p + 16 = p + 8 + 8 by omega]) hb hk)
  clear hi hb hk
  refine hK.out _ _ (cellAt (i := 0) HV3.out.b0 rfl) (fun hHeld => ?_)
  clear hK K
  refine norm_ (a' := ?_) ?_ ?_
  rotate_left
  · show Act.put _ (some 10) _ = _
    simp only [Act.put, List.setIfInBounds_toArray, List.set_cons_zero, List.set_cons_succ, i64_w, i32_w]
    rfl
  refine pure_ (i := 7) (N := some 15) (v := ?_) (a' := ?_) #[true, true, true, true, true, false, false, true, false, false, false, false, false] rfl rfl (by kernel_rfl) (fun _ _ _ h => h) (Or.inl ⟨by rfl, ?_⟩) ?_ ?_
  rotate_left
  · intro w'
    go_simp
    with_reducible rfl
  rotate_left
  · simp only [Act.put, List.setIfInBounds_toArray, List.set_cons_zero, List.set_cons_succ, i64_w, i32_w]
    rfl
  refine pure_ (i := 8) (N := some 16) (v := ?_) (a' := ?_) #[true, true, true, true, true, false, false, true, true, false, false, false, false] rfl rfl (by kernel_rfl) (fun _ _ _ h => h) (Or.inl ⟨by rfl, ?_⟩) ?_ ?_
  rotate_left
  · intro w'
    go_simp
    with_reducible rfl
  rotate_left
  · simp only [Act.put, List.setIfInBounds_toArray, List.set_cons_zero, List.set_cons_succ, i64_w, i32_w]
    rfl
  refine one_ (i := 5) (N := some 13) #[true, true, true, true, true, true, false, true, true, false, false, false, false] rfl rfl (by kernel_rfl) (by decide) (fun K hK => ?_)
  refine goesP_ Try.func27 (by kernel_rfl) rfl #[.pointer (some ⟨g, 0, none⟩), .int .i64 1] (by rfl) rfl rfl (by (try simp only [List.map_toArray, List.map_cons, List.map_nil]); first | done | rfl) ?_
  with_reducible refine (reader_num_bad g s (p + 16) 1 w0 _ HV3.out.rd HV3.out.bel (by have := HN.out; omega) (by have := HN.out; omega) (by have := HN.out; omega) (by omega) (by omega) HN.out.2.2).mono ?_
  rintro e w5 ⟨rfl, hb, hk⟩
  exact ⟨_, rfl, rfl, rfl, hb, HV3.out.keep.trans hk (.inl rfl)⟩
set_option maxHeartbeats 8000000 in
set_option maxRecDepth 100000 in
theorem reader_view_range (g : Nat) (s : ByteArray) (p : Int) (w0 w : World) (hI : IsS93 w0 w g s p) (hB : Below w0.heap.size w0 w) (h0 : 0 ≤ p) (h1 : p + 17 ≤ s.size) (hs : s.size ≤ 1000000) (hr : 64 ≤ IntKind.i64.wrap (numAt s (p + 16) 1)) :
    Calls Try.prog 34 #[.agg #[.pointer (some ⟨g, 0, none⟩)]] w fun e w' => e = gives 1 ∧ Below w0.heap.size w0 w' ∧ KeepBut w w' g none := by
  have HG := Aside0.mk (IsS93.lt hI)
  have HV0 := Aside0.mk (VS.start (w := w) hI hB)
  have HN := Aside0.mk (show 0 ≤ p ∧ (p + 17 ≤ s.size) ∧ s.size ≤ 1000000 from ⟨h0, by omega, hs⟩)
  obtain ⟨x0, hx0⟩ : ∃ x, x = numAt s p 8 := ⟨_, rfl⟩
  obtain ⟨x1, hx1⟩ : ∃ x, x = numAt s (p + 8) 8 := ⟨_, rfl⟩
  obtain ⟨x2, hx2⟩ : ∃ x, x = numAt s (p + 16) 1 := ⟨_, rfl⟩
  obtain ⟨x3, hx3⟩ : ∃ x, x = numAt s (p + 17) 8 := ⟨_, rfl⟩
  rw [← hx2] at hr
  obtain ⟨y2, hy2⟩ : ∃ y, y = IntKind.i64.wrap x2 := ⟨_, rfl⟩
  rw [← hy2] at hr
  have b3 : decide (64 ≤ y2) = true := decide_eq_true (by omega)
  have HX0 := Aside0.mk hx0
  have HX1 := Aside0.mk hx1
  have HX2 := Aside0.mk hx2
  have HX3 := Aside0.mk hx3
  have HY2 := Aside0.mk hy2
  clear hI hB h0 h1 hs hr hx0 hx1 hx2 hx3 hy2
  go_enter Try.func34, Try.ntmps34
  go_wp2_with (go_at_call 27; (with_reducible refine (reader_num g s p 8 w0 (vW w g) HV0.out.rd HV0.out.bel HN.out.1 (by have := HN.out; omega) (by omega) (by omega) HN.out.2.2).mono ?_); rintro e w3 ⟨rfl, hi, hb, hk⟩; rw [← HX0.out]; have HV1 := Aside0.mk (HV0.out.call HG.out hi hb hk); clear hi hb hk)
  have hyr : IntKind.i64.wrap x2 = y2 := HY2.out.symm
  have HV2 := Aside0.mk (VS.below HV1.out HG.out (W1 := (w3.alloc (.cells #[.int .u64 x0, .int .u64 0, .int .i64 0, .int .u64 0] 27)).drew) (below_drew (below_alloc (Below.refl _ _) _)))
  have HT2 := Aside0.mk (show (w3.alloc (.cells #[.int .u64 x0, .int .u64 0, .int .i64 0, .int .u64 0] 27)).drew.heap[w3.heap.size]? = _ from heap_alloc_new w3 _)
  have HTN := Aside0.mk (show w3.heap.size ≠ g by have := HV1.out.keep.1; have := HG.out; omega)
  have r0 := cellAt (i := 0) HV2.out.b0 rfl
  go_cut [10, 13] from 8 to 19 (fun v10 v13 wx => Aside0 (VS w0 w wx g s (p + 17)) ∧ Aside0 (wx.heap[w3.heap.size]? = some (.cells #[.int .u64 x0, .int .u64 x1, .int .i64 y2, .int .u64 0] 27 (0, 0))))
  case first =>
    go_region_with (first
      | (go_at_call 27; (with_reducible refine (reader_num g s (p + 8) 8 w0 _ HV2.out.rd HV2.out.bel (by have := HN.out; omega) (by have := HN.out; omega) (by omega) (by omega) HN.out.2.2).mono ?_); rintro e w4 ⟨rfl, hi, hb, hk⟩; rw [← HX1.out]; have HV3 := Aside0.mk (HV2.out.call HG.out (show IsS93 w0 w4 g s (p + 16) by rwa [show p + 16 = p + 8 + 8 by omega]) hb hk); have HT3 := Aside0.mk (hk.blk HT2.out HTN.out (by simp)); have r1 := cellAt (i := 0) HV3.out.b0 rfl; clear hi hb hk)
      | (go_at_call 27; (with_reducible refine (reader_num g s (p + 16) 1 w0 _ HV3.out.rd HV3.out.bel (by have := HN.out; omega) (by have := HN.out; omega) (by omega) (by omega) HN.out.2.2).mono ?_); rintro e w5 ⟨rfl, hi, hb, hk⟩; rw [← HX2.out]; have HV4 := Aside0.mk (HV3.out.call HG.out (show IsS93 w0 w5 g s (p + 17) by rwa [show p + 17 = p + 16 + 1 by omega]) hb hk); have HT4 := Aside0.mk (hk.blk HT3.out HTN.out (by simp)); have r2 := cellAt (i := 0) HV4.out.b0 rfl; have s1 := cellAt (i := 1) HT4.out rfl; have s2 := cellAt (i := 2) HT4.out rfl; have f1 := blk_frozen HT4.out 1; have f2 := blk_frozen HT4.out 2; clear hi hb hk))
    all_goals
      go_wp2_with fail
      go_meet
      case rel => exact ⟨⟨(HV4.out.far (p := ⟨w3.heap.size, 1, none⟩) HTN.out (by have := HV1.out.keep.1; have := HG.out; have := blk_lt HV1.out.b1; show w3.heap.size > _; omega) _).far (p := ⟨w3.heap.size, 2, none⟩) HTN.out (by have := blk_lt HV1.out.b1; show w3.heap.size > _; omega) _⟩, ⟨blk_set (blk_set HT4.out 1 _) 2 _⟩⟩
  case rest =>
    obtain ⟨HV5, HT5⟩ := hcut
    have r5 := cellAt (i := 0) HV5.out.b0 rfl
    have s2 := cellAt (i := 2) HT5.out rfl
    clear r0 HV2 HT2
    go_wp2_with (go_at_call 26; (with_reducible refine (bad_yes 1 _).mono ?_); rintro e w_ ⟨rfl, rfl⟩)
    exact ⟨rfl, rfl, HV5.out.bel, HV5.out.keep⟩
set_option maxHeartbeats 8000000 in
set_option maxRecDepth 100000 in
theorem reader_view_short4 (g : Nat) (s : ByteArray) (p : Int) (w0 w : World) (hI : IsS93 w0 w g s p) (hB : Below w0.heap.size w0 w) (h0 : 0 ≤ p) (h1 : p + 17 ≤ s.size) (h2 : s.size < p + 25) (hs : s.size ≤ 1000000) (hr : IntKind.i64.wrap (numAt s (p + 16) 1) < 64) :
    Calls Try.prog 34 #[.agg #[.pointer (some ⟨g, 0, none⟩)]] w fun e w' => e = gives 2 ∧ Below w0.heap.size w0 w' ∧ KeepBut w w' g none := by
  have HG := Aside0.mk (IsS93.lt hI)
  have HV0 := Aside0.mk (VS.start (w := w) hI hB)
  have HN := Aside0.mk (show 0 ≤ p ∧ (p + 17 ≤ s.size ∧ s.size < p + 25) ∧ s.size ≤ 1000000 from ⟨h0, by omega, hs⟩)
  obtain ⟨x0, hx0⟩ : ∃ x, x = numAt s p 8 := ⟨_, rfl⟩
  obtain ⟨x1, hx1⟩ : ∃ x, x = numAt s (p + 8) 8 := ⟨_, rfl⟩
  obtain ⟨x2, hx2⟩ : ∃ x, x = numAt s (p + 16) 1 := ⟨_, rfl⟩
  obtain ⟨x3, hx3⟩ : ∃ x, x = numAt s (p + 17) 8 := ⟨_, rfl⟩
  rw [← hx2] at hr
  obtain ⟨y2, hy2⟩ : ∃ y, y = IntKind.i64.wrap x2 := ⟨_, rfl⟩
  rw [← hy2] at hr
  have b3 : decide (64 ≤ y2) = false := decide_eq_false (by omega)
  have HX0 := Aside0.mk hx0
  have HX1 := Aside0.mk hx1
  have HX2 := Aside0.mk hx2
  have HX3 := Aside0.mk hx3
  have HY2 := Aside0.mk hy2
  clear hI hB h0 h1 h2 hs hr hx0 hx1 hx2 hx3 hy2
  go_enter Try.func34, Try.ntmps34
  go_wp2_with (go_at_call 27; (with_reducible refine (reader_num g s p 8 w0 (vW w g) HV0.out.rd HV0.out.bel HN.out.1 (by have := HN.out; omega) (by omega) (by omega) HN.out.2.2).mono ?_); rintro e w3 ⟨rfl, hi, hb, hk⟩; rw [← HX0.out]; have HV1 := Aside0.mk (HV0.out.call HG.out hi hb hk); clear hi hb hk)
  have hyr : IntKind.i64.wrap x2 = y2 := HY2.out.symm
  have HV2 := Aside0.mk (VS.below HV1.out HG.out (W1 := (w3.alloc (.cells #[.int .u64 x0, .int .u64 0, .int .i64 0, .int .u64 0] 27)).drew) (below_drew (below_alloc (Below.refl _ _) _)))
  have HT2 := Aside0.mk (show (w3.alloc (.cells #[.int .u64 x0, .int .u64 0, .int .i64 0, .int .u64 0] 27)).drew.heap[w3.heap.size]? = _ from heap_alloc_new w3 _)
  have HTN := Aside0.mk (show w3.heap.size ≠ g by have := HV1.out.keep.1; have := HG.out; omega)
  have r0 := cellAt (i := 0) HV2.out.b0 rfl
  go_cut [10, 13] from 8 to 19 (fun v10 v13 wx => Aside0 (VS w0 w wx g s (p + 17)) ∧ Aside0 (wx.heap[w3.heap.size]? = some (.cells #[.int .u64 x0, .int .u64 x1, .int .i64 y2, .int .u64 0] 27 (0, 0))))
  case first =>
    go_region_with (first
      | (go_at_call 27; (with_reducible refine (reader_num g s (p + 8) 8 w0 _ HV2.out.rd HV2.out.bel (by have := HN.out; omega) (by have := HN.out; omega) (by omega) (by omega) HN.out.2.2).mono ?_); rintro e w4 ⟨rfl, hi, hb, hk⟩; rw [← HX1.out]; have HV3 := Aside0.mk (HV2.out.call HG.out (show IsS93 w0 w4 g s (p + 16) by rwa [show p + 16 = p + 8 + 8 by omega]) hb hk); have HT3 := Aside0.mk (hk.blk HT2.out HTN.out (by simp)); have r1 := cellAt (i := 0) HV3.out.b0 rfl; clear hi hb hk)
      | (go_at_call 27; (with_reducible refine (reader_num g s (p + 16) 1 w0 _ HV3.out.rd HV3.out.bel (by have := HN.out; omega) (by have := HN.out; omega) (by omega) (by omega) HN.out.2.2).mono ?_); rintro e w5 ⟨rfl, hi, hb, hk⟩; rw [← HX2.out]; have HV4 := Aside0.mk (HV3.out.call HG.out (show IsS93 w0 w5 g s (p + 17) by rwa [show p + 17 = p + 16 + 1 by omega]) hb hk); have HT4 := Aside0.mk (hk.blk HT3.out HTN.out (by simp)); have r2 := cellAt (i := 0) HV4.out.b0 rfl; have s1 := cellAt (i := 1) HT4.out rfl; have s2 := cellAt (i := 2) HT4.out rfl; have f1 := blk_frozen HT4.out 1; have f2 := blk_frozen HT4.out 2; clear hi hb hk))
    all_goals
      go_wp2_with fail
      go_meet
      case rel => exact ⟨⟨(HV4.out.far (p := ⟨w3.heap.size, 1, none⟩) HTN.out (by have := HV1.out.keep.1; have := HG.out; have := blk_lt HV1.out.b1; show w3.heap.size > _; omega) _).far (p := ⟨w3.heap.size, 2, none⟩) HTN.out (by have := blk_lt HV1.out.b1; show w3.heap.size > _; omega) _⟩, ⟨blk_set (blk_set HT4.out 1 _) 2 _⟩⟩
  case rest =>
    obtain ⟨HV5, HT5⟩ := hcut
    have r5 := cellAt (i := 0) HV5.out.b0 rfl
    have s2 := cellAt (i := 2) HT5.out rfl
    clear r0 HV2 HT2
    go_wp2_with (first
      | (go_at_call 26; (with_reducible refine (bad_no _ _).mono ?_); rintro e w_ ⟨rfl, rfl⟩)
      | (go_at_call 27; (with_reducible refine (reader_num_bad g s (p + 17) 8 w0 _ HV5.out.rd HV5.out.bel (by have := HN.out; omega) (by have := HN.out; omega) (by have := HN.out; omega) (by omega) (by omega) HN.out.2.2).mono ?_); rintro e w6 ⟨rfl, hb, hk⟩; have HB := Aside0.mk hb; have HK := Aside0.mk (HV5.out.keep.trans hk (.inl rfl)); clear hb hk))
    exact ⟨rfl, rfl, HB.out, HK.out⟩
end Go.Proofs.Ytlkemknhmfjdpaa.P
/- The log's reader, by hand: records. -/
namespace Go.Proofs.Ytlkemknhmfjdpaa.P
open Go.RowKit Go.Proofs.YtlkemknhmfjdpaaW.PrintWords Go.Proofs.YtlkemknhmfjdpaaW.PrintLast Go.Proofs.YtlkemknhmfjdpaaW.PrintMore
attribute [local go_sem] max2_int min2_int max_two min_two max_three min_three max_four min_four
set_option linter.unusedVariables false
set_option linter.unusedSimpArgs false

/-! ### Views, with all their ends -/
/-- The error of a view at p; 0: none. -/
def viewE (s : ByteArray) (p : Int) : Int := if s.size < p + 17 then 2 else if 64 ≤ IntKind.i64.wrap (numAt s (p + 16) 1) then 1 else if s.size < p + 25 then 2 else 0
def viewAt (s : ByteArray) (p : Int) : S27 := ⟨numAt s p 8, ⟨numAt s (p + 8) 8, IntKind.i64.wrap (numAt s (p + 16) 1)⟩, numAt s (p + 17) 8⟩
theorem viewE_zero {s : ByteArray} {p : Int} (h : viewE s p = 0) : p + 25 ≤ s.size ∧ IntKind.i64.wrap (numAt s (p + 16) 1) < 64 := by
  unfold viewE at h
  split at h
  · cases h
  · split at h
    · cases h
    · split at h
      · cases h
      · omega
theorem reader_view_good (g : Nat) (s : ByteArray) (p : Int) (w0 w : World) (hI : IsS93 w0 w g s p) (hB : Below w0.heap.size w0 w) (h0 : 0 ≤ p) (hs : s.size ≤ 1000000) (hv : viewE s p = 0) :
    Calls Try.prog 34 #[.agg #[.pointer (some ⟨g, 0, none⟩)]] w fun e w' => e = .returned (.agg #[.int .u64 (viewAt s p).f0, .int .u64 (viewAt s p).f1.f0, .int .i64 (viewAt s p).f1.f1, .int .u64 (viewAt s p).f2]) ∧ IsS93 w0 w' g s (p + 25) ∧ Below w0.heap.size w0 w' ∧ KeepBut w w' g none :=
  reader_view g s p w0 w hI hB h0 (viewE_zero hv).1 hs (viewE_zero hv).2
theorem reader_view_bad (g : Nat) (s : ByteArray) (p c : Int) (w0 w : World) (hI : IsS93 w0 w g s p) (hB : Below w0.heap.size w0 w) (h0 : 0 ≤ p) (h1 : p ≤ s.size) (hs : s.size ≤ 1000000) (hv : viewE s p = c) (hc : c ≠ 0) :
    Calls Try.prog 34 #[.agg #[.pointer (some ⟨g, 0, none⟩)]] w fun e w' => e = gives c ∧ Below w0.heap.size w0 w' ∧ KeepBut w w' g none := by
  unfold viewE at hv
  by_cases c1 : s.size < p + 17
  · rw [if_pos c1] at hv
    subst hv
    by_cases d1 : s.size < p + 8
    · exact reader_view_short1 g s p w0 w hI hB h0 hs h1 d1
    by_cases d2 : s.size < p + 16
    · exact reader_view_short2 g s p w0 w hI hB h0 hs (by omega) d2
    · exact reader_view_short3 g s p w0 w hI hB h0 hs (by omega) c1
  rw [if_neg c1] at hv
  by_cases c2 : 64 ≤ IntKind.i64.wrap (numAt s (p + 16) 1)
  · rw [if_pos c2] at hv
    subst hv
    exact reader_view_range g s p w0 w hI hB h0 (by omega) hs c2
  rw [if_neg c2] at hv
  by_cases c3 : s.size < p + 25
  · rw [if_pos c3] at hv
    subst hv
    exact reader_view_short4 g s p w0 w hI hB h0 (by omega) c3 hs (by omega)
  · rw [if_neg c3] at hv
    exact absurd hv.symm hc
/-- The error of n views from p on. -/
def viewsE (s : ByteArray) : Nat → Int → Int
  | 0, _ => 0
  | n + 1, p => if viewE s p = 0 then viewsE s n (p + 25) else viewE s p
def viewsAt (s : ByteArray) : Nat → Int → List S27
  | 0, _ => []
  | n + 1, p => viewAt s p :: viewsAt s n (p + 25)
/-! ### Records -/
abbrev rW (w : World) (g : Nat) : World := (w.alloc (.cells #[.pointer (some ⟨g, 0, none⟩)] 73)).alloc (.cells #[.int .u64 0, .int .u64 0, .int .i64 0, .int .u64 0, .slice none 0 0] 30)
theorem rW_b0 (w : World) (g : Nat) : (rW w g).heap[w.heap.size]? = some (.cells #[.pointer (some ⟨g, 0, none⟩)] 73 (0, 0)) := heap_old1 (heap_alloc_new w _) _
theorem rW_b1 (w : World) (g : Nat) : (rW w g).heap[w.heap.size + 1]? = some (.cells #[.int .u64 0, .int .u64 0, .int .i64 0, .int .u64 0, .slice none 0 0] 30 (0, 0)) := by
  have := heap_alloc_new (w.alloc (.cells #[.pointer (some ⟨g, 0, none⟩)] 73)) (.cells #[.int .u64 0, .int .u64 0, .int .i64 0, .int .u64 0, .slice none 0 0] 30)
  simpa using this
structure RS (w0 w W : World) (g : Nat) (s : ByteArray) (q : Int) : Prop where
  sz0 : w0.heap.size ≤ w.heap.size
  rd : IsS93 w0 W g s q
  bel : Below w0.heap.size w0 W
  keep : KeepBut w W g none
  b0 : W.heap[w.heap.size]? = some (.cells #[.pointer (some ⟨g, 0, none⟩)] 73 (0, 0))
  b1 : W.heap[w.heap.size + 1]? = some (.cells #[.int .u64 0, .int .u64 0, .int .i64 0, .int .u64 0, .slice none 0 0] 30 (0, 0))
section
variable {w0 w W W1 : World} {g : Nat} {s : ByteArray} {q q1 : Int}
theorem RS.start (hI : IsS93 w0 w g s q) (hB : Below w0.heap.size w0 w) : RS w0 w (rW w g) g s q :=
  ⟨hB.size, (hI.alloc _).alloc _, below_alloc (below_alloc hB _) _, KeepBut.of_below (below_alloc (below_alloc (Below.refl _ _) _) _) _ _, rW_b0 w g, rW_b1 w g⟩
theorem RS.call (h : RS w0 w W g s q) (hg : g < w.heap.size) (hi : IsS93 w0 W1 g s q1) (hb : Below w0.heap.size w0 W1) (hk : KeepBut W W1 g none) : RS w0 w W1 g s q1 :=
  ⟨h.sz0, hi, hb, h.keep.trans hk (.inl rfl), hk.blk h.b0 (by omega) (by simp), hk.blk h.b1 (by omega) (by simp)⟩
theorem RS.below (h : RS w0 w W g s q) (hg : g < w.heap.size) (hb : Below W.heap.size W W1) : RS w0 w W1 g s q :=
  h.call hg (h.rd.below hb) (below_step h.bel hb) (KeepBut.of_below hb g none)
theorem RS.far (h : RS w0 w W g s q) {p : Addr} (h1 : p.block ≠ g) (h2 : p.block > w.heap.size + 1) (u : Value) : RS w0 w (W.setCell p u) g s q :=
  ⟨h.sz0, h.rd.far (fun e => h1 e.symm) u, h.bel.setCell (by have := h.sz0; omega) u, keep_far h.keep (by omega) u, blk_far h.b0 (by omega) u, blk_far h.b1 (by omega) u⟩
/-- An append to a row that is not older than w. -/
theorem RS.grown {v : Value} {xs : List S27} (h : RS w0 w W g s q) (hR : Kd.R k27 27 W w.heap.size (fun _ => True) v xs) (hg : W.grownBy W1 v.ownBlock) (hgl : g < w.heap.size) : RS w0 w W1 g s q := by
  have hne : ∀ k, v.ownBlock = some k → w.heap.size ≤ k := fun k hk => by
    rcases Kd.R_base2 hR with h0 | ⟨b, h1, h2⟩
    · rw [h0] at hk; cases hk
    · rw [h1] at hk; cases hk; exact h2
  refine ⟨h.sz0, h.rd.grown hg (fun e => by have := hne g e.symm; omega), h.bel.grown hg h.bel.size (fun k hk => by have := hne k hk; have := h.sz0; omega), ?_, blk_grown h.b0 hg (Kd.R_ne hR h.b0 (by decide)), blk_grown h.b1 hg (Kd.R_ne hR h.b1 (by decide))⟩
  exact ⟨Nat.le_trans h.keep.1 hg.size, fun i hi h1 _ => (hg.block i (Nat.lt_of_lt_of_le hi h.keep.1) (fun e => by have := hne i e.symm; omega)).trans (h.keep.2 i hi h1 (by simp))⟩
end
set_option maxHeartbeats 8000000 in
set_option maxRecDepth 100000 in
theorem reader_record (g : Nat) (s : ByteArray) (p : Int) (w0 w : World) (hI : IsS93 w0 w g s p) (hB : Below w0.heap.size w0 w) (h0 : 0 ≤ p) (hs : s.size ≤ 1000000) (hv : viewE s p = 0) (h1 : p + 26 ≤ s.size) (h2 : IntKind.i64.wrap (numAt s (p + 25) 1) ≤ 32) (h3 : viewsE s (IntKind.i64.wrap (numAt s (p + 25) 1)).toNat (p + 26) = 0) :
    Calls Try.prog 28 #[.agg #[.pointer (some ⟨g, 0, none⟩)]] w fun e w' => ∃ v : Value, e = .returned (.agg #[.int .u64 (viewAt s p).f0, .int .u64 (viewAt s p).f1.f0, .int .i64 (viewAt s p).f1.f1, .int .u64 (viewAt s p).f2, v]) ∧ Kd.R k27 27 w' w.heap.size (fun _ => True) v (viewsAt s (IntKind.i64.wrap (numAt s (p + 25) 1)).toNat (p + 26)) ∧ IsS93 w0 w' g s (p + 26 + 25 * ((IntKind.i64.wrap (numAt s (p + 25) 1)).toNat : Int)) ∧ Below w0.heap.size w0 w' ∧ KeepBut w w' g none := by
  have HG := Aside0.mk (IsS93.lt hI)
  have HV0 := Aside0.mk (RS.start (w := w) hI hB)
  obtain ⟨xv, hxv⟩ : ∃ x, x = viewAt s p := ⟨_, rfl⟩
  have HXV := Aside0.mk hxv
  obtain ⟨xc, hxc⟩ : ∃ x, x = numAt s (p + 25) 1 := ⟨_, rfl⟩
  have HXC := Aside0.mk hxc
  obtain ⟨n, hn⟩ : ∃ n, n = IntKind.i64.wrap xc := ⟨_, rfl⟩
  have hyr : IntKind.i64.wrap xc = n := hn.symm
  have HNN := Aside0.mk hn
  have HN := Aside0.mk (show 0 ≤ p ∧ p + 26 ≤ s.size ∧ s.size ≤ 1000000 from ⟨h0, h1, hs⟩)
  have HVE := Aside0.mk hv
  rw [← hxc, ← hn] at h2 h3
  rw [← hxv, ← hxc, ← hn]
  have HE := Aside0.mk h3
  have H2 := Aside0.mk h2
  have b3 : decide (32 < n) = false := decide_eq_false (by omega)
  clear hI hB h0 hs hv h1 h2 h3 hxv hxc hn
  go_enter Try.func28, Try.ntmps28
  go_wp2_with (first | (go_at_call 34; (with_reducible refine (reader_view_good g s p w0 (rW w g) HV0.out.rd HV0.out.bel HN.out.1 HN.out.2.2 HVE.out).mono ?_); rintro e w3 ⟨rfl, hi, hb, hk⟩; rw [← HXV.out]; have HV1 := Aside0.mk (HV0.out.call HG.out hi hb hk); have HT2 := Aside0.mk (show (w3.alloc (.cells #[.int .u64 xv.f0, .int .u64 xv.f1.f0, .int .i64 xv.f1.f1, .int .u64 xv.f2, .slice none 0 0] 30)).heap[w3.heap.size]? = _ from heap_alloc_new w3 _); have HV2 := Aside0.mk (RS.below HV1.out HG.out (W1 := w3.alloc (.cells #[.int .u64 xv.f0, .int .u64 xv.f1.f0, .int .i64 xv.f1.f1, .int .u64 xv.f2, .slice none 0 0] 30)) (below_alloc (Below.refl _ _) _)); have HTN := Aside0.mk (show w3.heap.size ≠ g ∧ w.heap.size + 1 < w3.heap.size from ⟨by have := HV1.out.keep.1; have := HG.out; omega, blk_lt HV1.out.b1⟩); have r0 := cellAt (i := 0) HV2.out.b0 rfl; clear hi hb hk) | (go_at_call 27; (with_reducible refine (reader_num g s (p + 25) 1 w0 _ HV2.out.rd HV2.out.bel (by have := HN.out; omega) (by have := HN.out; omega) (by omega) (by omega) HN.out.2.2).mono ?_); clear r0; rintro e w4 ⟨rfl, hi, hb, hk⟩; rw [← HXC.out]; have HV3 := Aside0.mk (HV2.out.call HG.out (show IsS93 w0 w4 g s (p + 26) by rwa [show p + 26 = p + 25 + 1 by omega]) hb hk); have HT3 := Aside0.mk (hk.blk HT2.out HTN.out.1 (by simp)); clear hi hb hk) | (go_at_call 26; (with_reducible refine (bad_no _ _).mono ?_); rintro e w_ ⟨rfl, rfl⟩))
  go_loopg [16] (n.toNat + 1) (fun kq v16 wr => ∃ (j q : Int) (acc : List S27) (v : Value), v16 = .int .i64 j ∧ Aside0 (0 ≤ j ∧ j + (kq : Int) = (n.toNat : Int) + 1 ∧ j ≤ (n.toNat : Int) ∧ q = p + 26 + 25 * j) ∧ Aside0 (RS w0 w wr g s q) ∧ Aside0 (wr.heap[w3.heap.size]? = some (.cells #[.int .u64 xv.f0, .int .u64 xv.f1.f0, .int .i64 xv.f1.f1, .int .u64 xv.f2, v] 30 (0, 0))) ∧ Aside0 (Kd.R k27 27 wr w.heap.size (fun _ => True) v acc) ∧ Aside0 (acc ++ viewsAt s (n.toNat - j.toNat) q = viewsAt s n.toNat (p + 26)) ∧ Aside0 (viewsE s (n.toNat - j.toNat) q = 0) ∧ Aside0 (acc.length = j.toNat))
  case atStart => exact ⟨0, p + 26, [], .slice none 0 0, rfl, ⟨by omega⟩, HV3, HT3, ⟨Kd.R_nil _ _ _ _ _⟩, ⟨by simp⟩, ⟨by simpa using HE.out⟩, ⟨rfl⟩⟩
  case round =>
    clear HV1 HV2 HV3 HT2 HT3 HE HVE
    obtain ⟨j, q, acc, v, rfl, HJ, HRS, HTS, HOS, HAS, HES, HLS⟩ := hrel
    cases gk with
    | zero => exact absurd HJ.out.2.1 (by have := HJ.out; omega)
    | succ k1 =>
      obtain ⟨Av, cv, rfl⟩ := Kd.R_slice HOS.out
      by_cases hj : j < n
      · have bj : decide (j < n) = true := decide_eq_true hj
        obtain ⟨m, hm⟩ : ∃ m, n.toNat - j.toNat = m + 1 := ⟨n.toNat - j.toNat - 1, by have := HJ.out; omega⟩
        have he := HES.out
        have ha := HAS.out
        rw [hm] at he ha
        have hvq : viewE s q = 0 := by
          unfold viewsE at he
          split at he
          · assumption
          · exact absurd he (by assumption)
        have he2 : viewsE s m (q + 25) = 0 := by
          unfold viewsE at he
          rwa [if_pos hvq] at he
        have HVQ := Aside0.mk hvq
        have HQ0 := Aside0.mk (show 0 ≤ q ∧ q + 25 ≤ s.size from ⟨by have := HJ.out; have := HN.out; omega, (viewE_zero hvq).1⟩)
        obtain ⟨y, hy⟩ : ∃ y, y = viewAt s q := ⟨_, rfl⟩
        have HY := Aside0.mk hy
        obtain ⟨acc2, hac⟩ : ∃ a, a = acc ++ [y] := ⟨_, rfl⟩
        have HAC := Aside0.mk hac
        have HLA := Aside0.mk (show (acc.length + 1) * 32 ≤ 140737488355328 by have := HLS.out; have := H2.out; have := HJ.out; omega)
        have HE2 := Aside0.mk he2
        have HA2 := Aside0.mk (show acc2 ++ viewsAt s m (q + 25) = viewsAt s n.toNat (p + 26) by rw [← ha, viewsAt, hac, hy, List.append_assoc]; rfl)
        have HM := Aside0.mk (show m = n.toNat - (j + 1).toNat by have := HJ.out; omega)
        have HL2 := Aside0.mk (show acc2.length = (j + 1).toNat by have := HLS.out; have := HJ.out; rw [hac, List.length_append, List.length_singleton]; omega)
        have HRd := Aside0.mk (HRS.out.below HG.out (W1 := wr.drew) (below_drew (Below.refl _ _)))
        have HTd := Aside0.mk (show wr.drew.heap[w3.heap.size]? = _ from HTS.out)
        have HOd := Aside0.mk (Kd.R_drew HOS.out)
        have HBN := Aside0.mk (show w3.heap.size ≠ g ∧ w.heap.size + 1 < w3.heap.size from HTN.out)
        have hj1 : j + 1 ≤ 33 := by have := H2.out; omega
        have hj0 : 0 ≤ j := HJ.out.1
        have HJN := Aside0.mk hj
        clear hj he ha hvq he2 hy hac hm
        go_wp2_with fail
        refine start_ (n := 8) (S := fun w' => w'.cell? ⟨w.heap.size, 0, none⟩ = some (.pointer (some ⟨g, 0, none⟩)) ∧ w'.cell? ⟨w3.heap.size, 4, none⟩ = some (.slice Av acc.length cv)) (ds := [7]) #[false, false, false, false, false, false, false, false] (by kernel_rfl) rfl rfl ⟨cellAt (i := 0) HRd.out.b0 rfl, cellAt (i := 4) HTd.out rfl⟩ (fun hHeld => ?_)
        generalize wr.drew = wd at HRd HTd HOd hHeld ⊢
        refine pure_ (i := 0) (N := some 18) (v := ?_) (a' := ?_) #[true, false, false, false, false, false, false, false] rfl rfl (by kernel_rfl) (fun _ _ _ h => h) (Or.inl ⟨by rfl, ?_⟩) ?_ ?_
        rotate_left
        · intro w'
          go_simp
          with_reducible rfl
        rotate_left
        · simp only [Act.put, List.setIfInBounds_toArray, List.set_cons_zero, List.set_cons_succ, i64_w, i32_w]
          rfl
        refine take_ (i := 1) (N := some 19) (v := ?_) (a' := ?_) #[true, true, false, false, false, false, false, false] rfl rfl (by kernel_rfl) (fun _ _ _ h => h) (Or.inl ⟨by rfl, ?_⟩) hHeld ?_ ?_
        rotate_left
        · rintro w' ⟨s0, s1⟩
          go_simp
          with_reducible rfl
        rotate_left
        · simp only [Act.put, List.setIfInBounds_toArray, List.set_cons_zero, List.set_cons_succ, i64_w, i32_w]
          rfl
        refine take_ (i := 2) (N := some 20) (v := ?_) (a' := ?_) #[true, true, true, false, false, false, false, false] rfl rfl (by kernel_rfl) (fun _ _ _ h => h) (Or.inl ⟨by rfl, ?_⟩) hHeld ?_ ?_
        rotate_left
        · rintro w' ⟨s0, s1⟩
          go_simp
          with_reducible rfl
        rotate_left
        · simp only [Act.put, List.setIfInBounds_toArray, List.set_cons_zero, List.set_cons_succ, i64_w, i32_w]
          rfl
        refine one_ (i := 3) (N := some 21) #[true, true, true, true, false, false, false, false] rfl rfl (by kernel_rfl) (by decide) (fun K hK => ?_)
        refine goes_ Try.func34 (by kernel_rfl) rfl #[.agg #[.pointer (some ⟨g, 0, none⟩)]] (by rfl) rfl rfl (by (try simp only [List.map_toArray, List.map_cons, List.map_nil]); first | done | rfl) ?_
        with_reducible refine (reader_view_good g s q w0 _ HRd.out.rd HRd.out.bel HQ0.out.1 HN.out.2.2 HVQ.out).mono ?_
        rintro e w5 ⟨rfl, hi, hb, hk⟩
        refine ⟨_, rfl, ?_⟩
        rw [← HY.out]
        have HR5 := Aside0.mk (HRd.out.call HG.out hi hb hk)
        have HT5 := Aside0.mk (hk.blk HTd.out HBN.out.1 (by simp))
        have HO5 := Aside0.mk (Kd.R_mono (Kd.R_keep (Kd.R_types HOd.out HRd.out.rd.1 (by decide)) hk (fun _ h => h.2)) (ok' := fun _ => True) (fun _ _ => trivial))
        clear hi hb hk
        refine hK.out _ _ ⟨cellAt (i := 0) HR5.out.b0 rfl, cellAt (i := 4) HT5.out rfl⟩ (fun hHeld => ?_)
        clear hK K
        refine norm_ (a' := ?_) ?_ ?_
        rotate_left
        · show Act.put _ (some 21) _ = _
          simp only [Act.put, List.setIfInBounds_toArray, List.set_cons_zero, List.set_cons_succ, i64_w, i32_w]
          rfl
        refine one_ (i := 4) (N := some 22) #[true, true, true, true, true, false, false, false] rfl rfl (by kernel_rfl) (by decide) (fun K hK => ?_)
        refine value_ (w1 := ?_) (v := ?_) (by rfl) rfl ?_ ?_
        rotate_left 2
        · go_simp
          constructor
          · rfl
          · rfl
        refine hK.out _ _ ⟨cellAt (i := 0) (heap_old1 HR5.out.b0 _) rfl, cellAt (i := 4) (heap_old1 HT5.out _) rfl⟩ (fun hHeld => ?_)
        clear hK K
        refine norm_ (a' := ?_) ?_ ?_
        rotate_left
        · show Act.put _ (some 22) _ = _
          simp only [Act.put, List.setIfInBounds_toArray, List.set_cons_zero, List.set_cons_succ, i64_w, i32_w]
          rfl
        refine one_ (i := 5) (N := some 23) #[true, true, true, true, true, true, false, false] rfl rfl (by kernel_rfl) (by decide) (fun K hK => ?_)
        refine Kd.R_append_step k27 (w0 := w5) w.heap.size (by rfl) (.tmp 19) (.tmp 22) 28 27 (.agg #[(.int .u64 0), (.int .u64 0), (.int .i64 0), (.int .u64 0)]) 32 rfl Try.underlying28 info27 rfl (by decide) (by omega) (.slice Av acc.length cv) acc y [.int .u64 y.f0, .int .u64 y.f1.f0, .int .i64 y.f1.f1, .int .u64 y.f2] (fun _ => True) (fun _ => False) rfl rfl (k27_mkM _ _ _ y) (fun _ hk => hk.elim) (fun _ _ => trivial) HO5.out ⟨rfl, rfl, rfl, Nat.le_refl _, fun _ _ => rfl⟩ HR5.out.keep.1 HLA.out ?_
        intro v6 w6 ho hb hg hat
        rw [← HAC.out] at ho
        have HR6 := Aside0.mk (HR5.out.grown HO5.out hg HG.out)
        have HT6 := Aside0.mk (blk_grown HT5.out hg (Kd.R_ne HO5.out HT5.out (by decide)))
        obtain ⟨A6, c6, rfl⟩ := Kd.R_slice ho
        have HO6 := Aside0.mk ho
        clear ho hb hg hat
        refine hK.out _ _ ⟨cellAt (i := 0) HR6.out.b0 rfl, cellAt (i := 4) HT6.out rfl⟩ (fun hHeld => ?_)
        clear hK K
        refine norm_ (a' := ?_) ?_ ?_
        rotate_left
        · show Act.put _ (some 23) _ = _
          simp only [Act.put, List.setIfInBounds_toArray, List.set_cons_zero, List.set_cons_succ, i64_w, i32_w]
          rfl
        refine pure_ (i := 6) (N := some 24) (v := ?_) (a' := ?_) #[true, true, true, true, true, true, true, false] rfl rfl (by kernel_rfl) (fun _ _ _ h => h) (Or.inl ⟨by rfl, ?_⟩) ?_ ?_
        rotate_left
        · intro w'
          go_simp
          with_reducible rfl
        rotate_left
        · simp only [Act.put, List.setIfInBounds_toArray, List.set_cons_zero, List.set_cons_succ, i64_w, i32_w]
          rfl
        refine last_ (i := 7) (N := none) #[true, true, true, true, true, true, true, true] rfl rfl (by kernel_rfl) (by decide) (fun K hK => ?_)
        have hs22 : w6.cell? ⟨w3.heap.size, 4, none⟩ = some (.slice Av acc.length cv) := cellAt HT6.out rfl
        have hfs22 := blk_frozen HT6.out 4
        refine skip_ (w1 := ?_) (by rfl) rfl ?_ ?_
        rotate_left
        · go_simp
          rfl
        refine hK.out _ _ ?_
        clear hK K
        refine done_ (by kernel_rfl) ?_
        go_wp2_with fail
        go_roundg k1
        case measure => exact Nat.lt_succ_self _
        case rel => exact ⟨j + 1, q + 25, acc2, _, rfl, ⟨by have := HJ.out; have := HJN.out; omega⟩, ⟨HR6.out.far HBN.out.1 HBN.out.2 _⟩, ⟨blk_set HT6.out 4 _⟩, ⟨Kd.R_mono (Kd.R_far (p := ⟨w3.heap.size, 4, none⟩) (Kd.R_types HO6.out HT6.out (by decide)) (fun _ hk => hk.2) _) (fun _ _ => trivial)⟩, ⟨by rw [← HM.out]; exact HA2.out⟩, ⟨by rw [← HM.out]; exact HE2.out⟩, HL2⟩
      · have bj : decide (j < n) = false := decide_eq_false hj
        have hjn : n.toNat - j.toNat = 0 := by omega
        have ha := HAS.out
        rw [hjn, viewsAt, List.append_nil] at ha
        subst ha
        have HQ := Aside0.mk (show q = p + 26 + 25 * (n.toNat : Int) by have := HJ.out; omega)
        clear hj hjn
        have s0 := cellAt (i := 0) HTS.out rfl
        have s1 := cellAt (i := 1) HTS.out rfl
        have s2 := cellAt (i := 2) HTS.out rfl
        have s3 := cellAt (i := 3) HTS.out rfl
        have s4 := cellAt (i := 4) HTS.out rfl
        have z0 := cellAt (i := 0) HRS.out.b1 rfl
        have z1 := cellAt (i := 1) HRS.out.b1 rfl
        have z2 := cellAt (i := 2) HRS.out.b1 rfl
        have z3 := cellAt (i := 3) HRS.out.b1 rfl
        have z4 := cellAt (i := 4) HRS.out.b1 rfl
        have g0 := blk_frozen HRS.out.b1 0
        have g1 := blk_frozen HRS.out.b1 1
        have g2 := blk_frozen HRS.out.b1 2
        have g3 := blk_frozen HRS.out.b1 3
        have g4 := blk_frozen HRS.out.b1 4
        go_wp2
        have hg := HG.out
        have hz := HRS.out.sz0
        refine bodyPost_ret (v := .agg #[.int .u64 xv.f0, .int .u64 xv.f1.f0, .int .i64 xv.f1.f1, .int .u64 xv.f2, .slice Av (viewsAt s n.toNat (p + 26)).length cv]) (results_single rfl (.cell (w.heap.size + 1) 30 #[.int .u64 xv.f0, .int .u64 xv.f1.f0, .int .i64 xv.f1.f1, .int .u64 xv.f2, .slice Av (viewsAt s n.toNat (p + 26)).length cv] (0, 0) _ rfl (blk_set (blk_set (blk_set (blk_set (blk_set HRS.out.b1 0 (.int .u64 xv.f0)) 1 (.int .u64 xv.f1.f0)) 2 (.int .i64 xv.f1.f1)) 3 (.int .u64 xv.f2)) 4 (.slice Av (viewsAt s n.toNat (p + 26)).length cv)) Try.underlying30 rfl (by kernel_rfl) .nil)) rfl ⟨_, rfl, ?_, ?_, ?_, ?_⟩
        · exact Kd.R_mono (Kd.R_far (p := ⟨w.heap.size + 1, 4, none⟩) (Kd.R_far (p := ⟨w.heap.size + 1, 3, none⟩) (Kd.R_far (p := ⟨w.heap.size + 1, 2, none⟩) (Kd.R_far (p := ⟨w.heap.size + 1, 1, none⟩) (Kd.R_far (p := ⟨w.heap.size + 1, 0, none⟩) (Kd.R_types HOS.out HRS.out.b1 (by decide)) (fun _ hk => hk.2) _) (fun _ hk => hk.2) _) (fun _ hk => hk.2) _) (fun _ hk => hk.2) _) (fun _ hk => hk.2) _) (fun _ _ => trivial)
        · rw [← HQ.out]
          exact ((((HRS.out.rd.far (show g ≠ w.heap.size + 1 by omega) _).far (show g ≠ w.heap.size + 1 by omega) _).far (show g ≠ w.heap.size + 1 by omega) _).far (show g ≠ w.heap.size + 1 by omega) _).far (show g ≠ w.heap.size + 1 by omega) _
        · exact below_set (below_set (below_set (below_set (below_set HRS.out.bel (by omega)) (by omega)) (by omega)) (by omega)) (by omega)
        · exact keep_far (keep_far (keep_far (keep_far (keep_far HRS.out.keep (show w.heap.size ≤ w.heap.size + 1 by omega) _) (show w.heap.size ≤ w.heap.size + 1 by omega) _) (show w.heap.size ≤ w.heap.size + 1 by omega) _) (show w.heap.size ≤ w.heap.size + 1 by omega) _) (show w.heap.size ≤ w.heap.size + 1 by omega) _
end Go.Proofs.Ytlkemknhmfjdpaa.P
/- The log's reader, by hand: records that are given up. -/
namespace Go.Proofs.Ytlkemknhmfjdpaa.P
open Go.RowKit Go.Proofs.YtlkemknhmfjdpaaW.PrintWords Go.Proofs.YtlkemknhmfjdpaaW.PrintLast Go.Proofs.YtlkemknhmfjdpaaW.PrintMore
attribute [local go_sem] max2_int min2_int max_two min_two max_three min_three max_four min_four
set_option linter.unusedVariables false
set_option linter.unusedSimpArgs false
set_option maxHeartbeats 8000000 in
set_option maxRecDepth 100000 in
theorem reader_record_bad1 (g : Nat) (s : ByteArray) (p : Int) (w0 w : World) (hI : IsS93 w0 w g s p) (hB : Below w0.heap.size w0 w) (h0 : 0 ≤ p) (hs : s.size ≤ 1000000) (c : Int) (h1 : p ≤ s.size) (hv : viewE s p = c) (hc : c ≠ 0) :
    Calls Try.prog 28 #[.agg #[.pointer (some ⟨g, 0, none⟩)]] w fun e w' => e = gives c ∧ Below w0.heap.size w0 w' ∧ KeepBut w w' g none := by
  have HG := Aside0.mk (IsS93.lt hI)
  have HV0 := Aside0.mk (RS.start (w := w) hI hB)
  obtain ⟨xv, hxv⟩ : ∃ x, x = viewAt s p := ⟨_, rfl⟩
  have HXV := Aside0.mk hxv
  obtain ⟨xc, hxc⟩ : ∃ x, x = numAt s (p + 25) 1 := ⟨_, rfl⟩
  have HXC := Aside0.mk hxc
  obtain ⟨n, hn⟩ : ∃ n, n = IntKind.i64.wrap xc := ⟨_, rfl⟩
  have hyr : IntKind.i64.wrap xc = n := hn.symm
  have HNN := Aside0.mk hn
  have HN := Aside0.mk (show 0 ≤ p ∧ p ≤ s.size ∧ s.size ≤ 1000000 from ⟨h0, h1, hs⟩)
  have HVE := Aside0.mk hv
  have HCC := Aside0.mk hc
  clear hI hB h0 hs hv h1 hc hxv hxc hn
  go_enter Try.func28, Try.ntmps28
  go_wp2_with (go_at_call 34; (with_reducible refine (reader_view_bad g s p c w0 (rW w g) HV0.out.rd HV0.out.bel HN.out.1 HN.out.2.1 HN.out.2.2 HVE.out HCC.out).mono ?_); rintro e w3 ⟨rfl, hb, hk⟩; have HB := Aside0.mk hb; have HK := Aside0.mk (HV0.out.keep.trans hk (.inl rfl)); clear hb hk)
  exact ⟨rfl, rfl, HB.out, HK.out⟩
set_option maxHeartbeats 8000000 in
set_option maxRecDepth 100000 in
theorem reader_record_bad2 (g : Nat) (s : ByteArray) (p : Int) (w0 w : World) (hI : IsS93 w0 w g s p) (hB : Below w0.heap.size w0 w) (h0 : 0 ≤ p) (hs : s.size ≤ 1000000) (hv : viewE s p = 0) (h1 : s.size < p + 26) :
    Calls Try.prog 28 #[.agg #[.pointer (some ⟨g, 0, none⟩)]] w fun e w' => e = gives 2 ∧ Below w0.heap.size w0 w' ∧ KeepBut w w' g none := by
  have HG := Aside0.mk (IsS93.lt hI)
  have HV0 := Aside0.mk (RS.start (w := w) hI hB)
  obtain ⟨xv, hxv⟩ : ∃ x, x = viewAt s p := ⟨_, rfl⟩
  have HXV := Aside0.mk hxv
  obtain ⟨xc, hxc⟩ : ∃ x, x = numAt s (p + 25) 1 := ⟨_, rfl⟩
  have HXC := Aside0.mk hxc
  obtain ⟨n, hn⟩ : ∃ n, n = IntKind.i64.wrap xc := ⟨_, rfl⟩
  have hyr : IntKind.i64.wrap xc = n := hn.symm
  have HNN := Aside0.mk hn
  have HN := Aside0.mk (show 0 ≤ p ∧ p + 25 ≤ s.size ∧ s.size ≤ 1000000 from ⟨h0, (viewE_zero hv).1, hs⟩)
  have HN2 := Aside0.mk h1
  have HVE := Aside0.mk hv
  clear hI hB h0 hs hv h1 hxc hn hxv
  go_enter Try.func28, Try.ntmps28
  go_wp2_with (first | (go_at_call 34; (with_reducible refine (reader_view_good g s p w0 (rW w g) HV0.out.rd HV0.out.bel HN.out.1 HN.out.2.2 HVE.out).mono ?_); rintro e w3 ⟨rfl, hi, hb, hk⟩; rw [← HXV.out]; have HV1 := Aside0.mk (HV0.out.call HG.out hi hb hk); have HT2 := Aside0.mk (show (w3.alloc (.cells #[.int .u64 xv.f0, .int .u64 xv.f1.f0, .int .i64 xv.f1.f1, .int .u64 xv.f2, .slice none 0 0] 30)).heap[w3.heap.size]? = _ from heap_alloc_new w3 _); have HV2 := Aside0.mk (RS.below HV1.out HG.out (W1 := w3.alloc (.cells #[.int .u64 xv.f0, .int .u64 xv.f1.f0, .int .i64 xv.f1.f1, .int .u64 xv.f2, .slice none 0 0] 30)) (below_alloc (Below.refl _ _) _)); have HTN := Aside0.mk (show w3.heap.size ≠ g ∧ w.heap.size + 1 < w3.heap.size from ⟨by have := HV1.out.keep.1; have := HG.out; omega, blk_lt HV1.out.b1⟩); have r0 := cellAt (i := 0) HV2.out.b0 rfl; clear hi hb hk) | (go_at_call 27; (with_reducible refine (reader_num_bad g s (p + 25) 1 w0 _ HV2.out.rd HV2.out.bel (by have := HN.out; omega) (by have := HN.out; omega) (by have := HN2.out; omega) (by omega) (by omega) HN.out.2.2).mono ?_); rintro e w4 ⟨rfl, hb, hk⟩; have HB := Aside0.mk hb; have HK := Aside0.mk (HV2.out.keep.trans hk (.inl rfl)); clear hb hk))
  exact ⟨rfl, rfl, HB.out, HK.out⟩
set_option maxHeartbeats 8000000 in
set_option maxRecDepth 100000 in
theorem reader_record_bad3 (g : Nat) (s : ByteArray) (p : Int) (w0 w : World) (hI : IsS93 w0 w g s p) (hB : Below w0.heap.size w0 w) (h0 : 0 ≤ p) (hs : s.size ≤ 1000000) (hv : viewE s p = 0) (h1 : p + 26 ≤ s.size) (h2 : 32 < IntKind.i64.wrap (numAt s (p + 25) 1)) :
    Calls Try.prog 28 #[.agg #[.pointer (some ⟨g, 0, none⟩)]] w fun e w' => e = gives 3 ∧ Below w0.heap.size w0 w' ∧ KeepBut w w' g none := by
  have HG := Aside0.mk (IsS93.lt hI)
  have HV0 := Aside0.mk (RS.start (w := w) hI hB)
  obtain ⟨xv, hxv⟩ : ∃ x, x = viewAt s p := ⟨_, rfl⟩
  have HXV := Aside0.mk hxv
  obtain ⟨xc, hxc⟩ : ∃ x, x = numAt s (p + 25) 1 := ⟨_, rfl⟩
  have HXC := Aside0.mk hxc
  obtain ⟨n, hn⟩ : ∃ n, n = IntKind.i64.wrap xc := ⟨_, rfl⟩
  have hyr : IntKind.i64.wrap xc = n := hn.symm
  have HNN := Aside0.mk hn
  have HN := Aside0.mk (show 0 ≤ p ∧ p + 26 ≤ s.size ∧ s.size ≤ 1000000 from ⟨h0, h1, hs⟩)
  have HVE := Aside0.mk hv
  rw [← hxc, ← hn] at h2
  have b3 : decide (32 < n) = true := decide_eq_true h2
  clear hI hB h0 hs hv h1 h2 hxc hn hxv
  go_enter Try.func28, Try.ntmps28
  go_wp2_with (first | (go_at_call 34; (with_reducible refine (reader_view_good g s p w0 (rW w g) HV0.out.rd HV0.out.bel HN.out.1 HN.out.2.2 HVE.out).mono ?_); rintro e w3 ⟨rfl, hi, hb, hk⟩; rw [← HXV.out]; have HV1 := Aside0.mk (HV0.out.call HG.out hi hb hk); have HT2 := Aside0.mk (show (w3.alloc (.cells #[.int .u64 xv.f0, .int .u64 xv.f1.f0, .int .i64 xv.f1.f1, .int .u64 xv.f2, .slice none 0 0] 30)).heap[w3.heap.size]? = _ from heap_alloc_new w3 _); have HV2 := Aside0.mk (RS.below HV1.out HG.out (W1 := w3.alloc (.cells #[.int .u64 xv.f0, .int .u64 xv.f1.f0, .int .i64 xv.f1.f1, .int .u64 xv.f2, .slice none 0 0] 30)) (below_alloc (Below.refl _ _) _)); have HTN := Aside0.mk (show w3.heap.size ≠ g ∧ w.heap.size + 1 < w3.heap.size from ⟨by have := HV1.out.keep.1; have := HG.out; omega, blk_lt HV1.out.b1⟩); have r0 := cellAt (i := 0) HV2.out.b0 rfl; clear hi hb hk) | (go_at_call 27; (with_reducible refine (reader_num g s (p + 25) 1 w0 _ HV2.out.rd HV2.out.bel (by have := HN.out; omega) (by have := HN.out; omega) (by omega) (by omega) HN.out.2.2).mono ?_); clear r0; rintro e w4 ⟨rfl, hi, hb, hk⟩; rw [← HXC.out]; have HV3 := Aside0.mk (HV2.out.call HG.out (show IsS93 w0 w4 g s (p + 26) by rwa [show p + 26 = p + 25 + 1 by omega]) hb hk); have HT3 := Aside0.mk (hk.blk HT2.out HTN.out.1 (by simp)); clear hi hb hk) | (go_at_call 26; (with_reducible refine (bad_yes 3 _).mono ?_); rintro e w_ ⟨rfl, rfl⟩))
  exact ⟨rfl, rfl, HV3.out.bel, HV3.out.keep⟩
set_option maxHeartbeats 8000000 in
set_option maxRecDepth 100000 in
theorem reader_record_bad4 (g : Nat) (s : ByteArray) (p : Int) (w0 w : World) (hI : IsS93 w0 w g s p) (hB : Below w0.heap.size w0 w) (h0 : 0 ≤ p) (hs : s.size ≤ 1000000) (c : Int) (hv : viewE s p = 0) (h1 : p + 26 ≤ s.size) (h2 : IntKind.i64.wrap (numAt s (p + 25) 1) ≤ 32) (h3 : viewsE s (IntKind.i64.wrap (numAt s (p + 25) 1)).toNat (p + 26) = c) (hc : c ≠ 0) :
    Calls Try.prog 28 #[.agg #[.pointer (some ⟨g, 0, none⟩)]] w fun e w' => e = gives c ∧ Below w0.heap.size w0 w' ∧ KeepBut w w' g none := by
  have HG := Aside0.mk (IsS93.lt hI)
  have HV0 := Aside0.mk (RS.start (w := w) hI hB)
  obtain ⟨xv, hxv⟩ : ∃ x, x = viewAt s p := ⟨_, rfl⟩
  have HXV := Aside0.mk hxv
  obtain ⟨xc, hxc⟩ : ∃ x, x = numAt s (p + 25) 1 := ⟨_, rfl⟩
  have HXC := Aside0.mk hxc
  obtain ⟨n, hn⟩ : ∃ n, n = IntKind.i64.wrap xc := ⟨_, rfl⟩
  have hyr : IntKind.i64.wrap xc = n := hn.symm
  have HNN := Aside0.mk hn
  have HN := Aside0.mk (show 0 ≤ p ∧ p + 26 ≤ s.size ∧ s.size ≤ 1000000 from ⟨h0, h1, hs⟩)
  have HVE := Aside0.mk hv
  have HCC := Aside0.mk hc
  rw [← hxc, ← hn] at h2 h3
  have HE := Aside0.mk h3
  have H2 := Aside0.mk h2
  have b3 : decide (32 < n) = false := decide_eq_false (by omega)
  clear hI hB h0 hs hv h1 h2 h3 hxv hxc hn hc
  go_enter Try.func28, Try.ntmps28
  go_wp2_with (first | (go_at_call 34; (with_reducible refine (reader_view_good g s p w0 (rW w g) HV0.out.rd HV0.out.bel HN.out.1 HN.out.2.2 HVE.out).mono ?_); rintro e w3 ⟨rfl, hi, hb, hk⟩; rw [← HXV.out]; have HV1 := Aside0.mk (HV0.out.call HG.out hi hb hk); have HT2 := Aside0.mk (show (w3.alloc (.cells #[.int .u64 xv.f0, .int .u64 xv.f1.f0, .int .i64 xv.f1.f1, .int .u64 xv.f2, .slice none 0 0] 30)).heap[w3.heap.size]? = _ from heap_alloc_new w3 _); have HV2 := Aside0.mk (RS.below HV1.out HG.out (W1 := w3.alloc (.cells #[.int .u64 xv.f0, .int .u64 xv.f1.f0, .int .i64 xv.f1.f1, .int .u64 xv.f2, .slice none 0 0] 30)) (below_alloc (Below.refl _ _) _)); have HTN := Aside0.mk (show w3.heap.size ≠ g ∧ w.heap.size + 1 < w3.heap.size from ⟨by have := HV1.out.keep.1; have := HG.out; omega, blk_lt HV1.out.b1⟩); have r0 := cellAt (i := 0) HV2.out.b0 rfl; clear hi hb hk) | (go_at_call 27; (with_reducible refine (reader_num g s (p + 25) 1 w0 _ HV2.out.rd HV2.out.bel (by have := HN.out; omega) (by have := HN.out; omega) (by omega) (by omega) HN.out.2.2).mono ?_); clear r0; rintro e w4 ⟨rfl, hi, hb, hk⟩; rw [← HXC.out]; have HV3 := Aside0.mk (HV2.out.call HG.out (show IsS93 w0 w4 g s (p + 26) by rwa [show p + 26 = p + 25 + 1 by omega]) hb hk); have HT3 := Aside0.mk (hk.blk HT2.out HTN.out.1 (by simp)); clear hi hb hk) | (go_at_call 26; (with_reducible refine (bad_no _ _).mono ?_); rintro e w_ ⟨rfl, rfl⟩))
  go_loopg [16] (n.toNat + 1) (fun kq v16 wr => ∃ (j q : Int) (acc : List S27) (v : Value), v16 = .int .i64 j ∧ Aside0 (0 ≤ j ∧ j + (kq : Int) = (n.toNat : Int) + 1 ∧ j ≤ (n.toNat : Int) ∧ q = p + 26 + 25 * j ∧ q ≤ s.size) ∧ Aside0 (RS w0 w wr g s q) ∧ Aside0 (wr.heap[w3.heap.size]? = some (.cells #[.int .u64 xv.f0, .int .u64 xv.f1.f0, .int .i64 xv.f1.f1, .int .u64 xv.f2, v] 30 (0, 0))) ∧ Aside0 (Kd.R k27 27 wr w.heap.size (fun _ => True) v acc) ∧ Aside0 (acc ++ viewsAt s (n.toNat - j.toNat) q = viewsAt s n.toNat (p + 26)) ∧ Aside0 (viewsE s (n.toNat - j.toNat) q = c) ∧ Aside0 (acc.length = j.toNat))
  case atStart => exact ⟨0, p + 26, [], .slice none 0 0, rfl, ⟨by have := HN.out; omega⟩, HV3, HT3, ⟨Kd.R_nil _ _ _ _ _⟩, ⟨by simp⟩, ⟨by simpa using HE.out⟩, ⟨rfl⟩⟩
  case round =>
    clear HV1 HV2 HV3 HT2 HT3 HE HVE
    obtain ⟨j, q, acc, v, rfl, HJ, HRS, HTS, HOS, HAS, HES, HLS⟩ := hrel
    cases gk with
    | zero => exact absurd HJ.out.2.1 (by have := HJ.out; omega)
    | succ k1 =>
      obtain ⟨Av, cv, rfl⟩ := Kd.R_slice HOS.out
      by_cases hj : j < n
      · have bj : decide (j < n) = true := decide_eq_true hj
        obtain ⟨m, hm⟩ : ∃ m, n.toNat - j.toNat = m + 1 := ⟨n.toNat - j.toNat - 1, by have := HJ.out; omega⟩
        have he := HES.out
        have ha := HAS.out
        rw [hm] at he ha
        by_cases hvq : viewE s q = 0
        · have he2 : viewsE s m (q + 25) = c := by
            unfold viewsE at he
            rwa [if_pos hvq] at he
          have HVQ := Aside0.mk hvq
          have HQ0 := Aside0.mk (show 0 ≤ q ∧ q + 25 ≤ s.size from ⟨by have := HJ.out; have := HN.out; omega, (viewE_zero hvq).1⟩)
          obtain ⟨y, hy⟩ : ∃ y, y = viewAt s q := ⟨_, rfl⟩
          have HY := Aside0.mk hy
          obtain ⟨acc2, hac⟩ : ∃ a, a = acc ++ [y] := ⟨_, rfl⟩
          have HAC := Aside0.mk hac
          have HLA := Aside0.mk (show (acc.length + 1) * 32 ≤ 140737488355328 by have := HLS.out; have := H2.out; have := HJ.out; omega)
          have HE2 := Aside0.mk he2
          have HA2 := Aside0.mk (show acc2 ++ viewsAt s m (q + 25) = viewsAt s n.toNat (p + 26) by rw [← ha, viewsAt, hac, hy, List.append_assoc]; rfl)
          have HM := Aside0.mk (show m = n.toNat - (j + 1).toNat by have := HJ.out; omega)
          have HL2 := Aside0.mk (show acc2.length = (j + 1).toNat by have := HLS.out; have := HJ.out; rw [hac, List.length_append, List.length_singleton]; omega)
          have HRd := Aside0.mk (HRS.out.below HG.out (W1 := wr.drew) (below_drew (Below.refl _ _)))
          have HTd := Aside0.mk (show wr.drew.heap[w3.heap.size]? = _ from HTS.out)
          have HOd := Aside0.mk (Kd.R_drew HOS.out)
          have HBN := Aside0.mk (show w3.heap.size ≠ g ∧ w.heap.size + 1 < w3.heap.size from HTN.out)
          have hj1 : j + 1 ≤ 33 := by have := H2.out; omega
          have hj0 : 0 ≤ j := HJ.out.1
          have HJN := Aside0.mk hj
          clear hj he ha hvq he2 hy hac hm
          go_wp2_with fail
          refine start_ (n := 8) (S := fun w' => w'.cell? ⟨w.heap.size, 0, none⟩ = some (.pointer (some ⟨g, 0, none⟩)) ∧ w'.cell? ⟨w3.heap.size, 4, none⟩ = some (.slice Av acc.length cv)) (ds := [7]) #[false, false, false, false, false, false, false, false] (by kernel_rfl) rfl rfl ⟨cellAt (i := 0) HRd.out.b0 rfl, cellAt (i := 4) HTd.out rfl⟩ (fun hHeld => ?_)
          generalize wr.drew = wd at HRd HTd HOd hHeld ⊢
          refine pure_ (i := 0) (N := some 18) (v := ?_) (a' := ?_) #[true, false, false, false, false, false, false, false] rfl rfl (by kernel_rfl) (fun _ _ _ h => h) (Or.inl ⟨by rfl, ?_⟩) ?_ ?_
          rotate_left
          · intro w'
            go_simp
            with_reducible rfl
          rotate_left
          · simp only [Act.put, List.setIfInBounds_toArray, List.set_cons_zero, List.set_cons_succ, i64_w, i32_w]
            rfl
          refine take_ (i := 1) (N := some 19) (v := ?_) (a' := ?_) #[true, true, false, false, false, false, false, false] rfl rfl (by kernel_rfl) (fun _ _ _ h => h) (Or.inl ⟨by rfl, ?_⟩) hHeld ?_ ?_
          rotate_left
          · rintro w' ⟨s0, s1⟩
            go_simp
            with_reducible rfl
          rotate_left
          · simp only [Act.put, List.setIfInBounds_toArray, List.set_cons_zero, List.set_cons_succ, i64_w, i32_w]
            rfl
          refine take_ (i := 2) (N := some 20) (v := ?_) (a' := ?_) #[true, true, true, false, false, false, false, false] rfl rfl (by kernel_rfl) (fun _ _ _ h => h) (Or.inl ⟨by rfl, ?_⟩) hHeld ?_ ?_
          rotate_left
          · rintro w' ⟨s0, s1⟩
            go_simp
            with_reducible rfl
          rotate_left
          · simp only [Act.put, List.setIfInBounds_toArray, List.set_cons_zero, List.set_cons_succ, i64_w, i32_w]
            rfl
          refine one_ (i := 3) (N := some 21) #[true, true, true, true, false, false, false, false] rfl rfl (by kernel_rfl) (by decide) (fun K hK => ?_)
          refine goes_ Try.func34 (by kernel_rfl) rfl #[.agg #[.pointer (some ⟨g, 0, none⟩)]] (by rfl) rfl rfl (by (try simp only [List.map_toArray, List.map_cons, List.map_nil]); first | done | rfl) ?_
          with_reducible refine (reader_view_good g s q w0 _ HRd.out.rd HRd.out.bel HQ0.out.1 HN.out.2.2 HVQ.out).mono ?_
          rintro e w5 ⟨rfl, hi, hb, hk⟩
          refine ⟨_, rfl, ?_⟩
          rw [← HY.out]
          have HR5 := Aside0.mk (HRd.out.call HG.out hi hb hk)
          have HT5 := Aside0.mk (hk.blk HTd.out HBN.out.1 (by simp))
          have HO5 := Aside0.mk (Kd.R_mono (Kd.R_keep (Kd.R_types HOd.out HRd.out.rd.1 (by decide)) hk (fun _ h => h.2)) (ok' := fun _ => True) (fun _ _ => trivial))
          clear hi hb hk
          refine hK.out _ _ ⟨cellAt (i := 0) HR5.out.b0 rfl, cellAt (i := 4) HT5.out rfl⟩ (fun hHeld => ?_)
          clear hK K
          refine norm_ (a' := ?_) ?_ ?_
          rotate_left
          · show Act.put _ (some 21) _ = _
            simp only [Act.put, List.setIfInBounds_toArray, List.set_cons_zero, List.set_cons_succ, i64_w, i32_w]
            rfl
          refine one_ (i := 4) (N := some 22) #[true, true, true, true, true, false, false, false] rfl rfl (by kernel_rfl) (by decide) (fun K hK => ?_)
          refine value_ (w1 := ?_) (v := ?_) (by rfl) rfl ?_ ?_
          rotate_left 2
          · go_simp
            constructor
            · rfl
            · rfl
          refine hK.out _ _ ⟨cellAt (i := 0) (heap_old1 HR5.out.b0 _) rfl, cellAt (i := 4) (heap_old1 HT5.out _) rfl⟩ (fun hHeld => ?_)
          clear hK K
          refine norm_ (a' := ?_) ?_ ?_
          rotate_left
          · show Act.put _ (some 22) _ = _
            simp only [Act.put, List.setIfInBounds_toArray, List.set_cons_zero, List.set_cons_succ, i64_w, i32_w]
            rfl
          refine one_ (i := 5) (N := some 23) #[true, true, true, true, true, true, false, false] rfl rfl (by kernel_rfl) (by decide) (fun K hK => ?_)
          refine Kd.R_append_step k27 (w0 := w5) w.heap.size (by rfl) (.tmp 19) (.tmp 22) 28 27 (.agg #[(.int .u64 0), (.int .u64 0), (.int .i64 0), (.int .u64 0)]) 32 rfl Try.underlying28 info27 rfl (by decide) (by omega) (.slice Av acc.length cv) acc y [.int .u64 y.f0, .int .u64 y.f1.f0, .int .i64 y.f1.f1, .int .u64 y.f2] (fun _ => True) (fun _ => False) rfl rfl (k27_mkM _ _ _ y) (fun _ hk => hk.elim) (fun _ _ => trivial) HO5.out ⟨rfl, rfl, rfl, Nat.le_refl _, fun _ _ => rfl⟩ HR5.out.keep.1 HLA.out ?_
          intro v6 w6 ho hb hg hat
          rw [← HAC.out] at ho
          have HR6 := Aside0.mk (HR5.out.grown HO5.out hg HG.out)
          have HT6 := Aside0.mk (blk_grown HT5.out hg (Kd.R_ne HO5.out HT5.out (by decide)))
          obtain ⟨A6, c6, rfl⟩ := Kd.R_slice ho
          have HO6 := Aside0.mk ho
          clear ho hb hg hat
          refine hK.out _ _ ⟨cellAt (i := 0) HR6.out.b0 rfl, cellAt (i := 4) HT6.out rfl⟩ (fun hHeld => ?_)
          clear hK K
          refine norm_ (a' := ?_) ?_ ?_
          rotate_left
          · show Act.put _ (some 23) _ = _
            simp only [Act.put, List.setIfInBounds_toArray, List.set_cons_zero, List.set_cons_succ, i64_w, i32_w]
            rfl
          refine pure_ (i := 6) (N := some 24) (v := ?_) (a' := ?_) #[true, true, true, true, true, true, true, false] rfl rfl (by kernel_rfl) (fun _ _ _ h => h) (Or.inl ⟨by rfl, ?_⟩) ?_ ?_
          rotate_left
          · intro w'
            go_simp
            with_reducible rfl
          rotate_left
          · simp only [Act.put, List.setIfInBounds_toArray, List.set_cons_zero, List.set_cons_succ, i64_w, i32_w]
            rfl
          refine last_ (i := 7) (N := none) #[true, true, true, true, true, true, true, true] rfl rfl (by kernel_rfl) (by decide) (fun K hK => ?_)
          have hs22 : w6.cell? ⟨w3.heap.size, 4, none⟩ = some (.slice Av acc.length cv) := cellAt HT6.out rfl
          have hfs22 := blk_frozen HT6.out 4
          refine skip_ (w1 := ?_) (by rfl) rfl ?_ ?_
          rotate_left
          · go_simp
            rfl
          refine hK.out _ _ ?_
          clear hK K
          refine done_ (by kernel_rfl) ?_
          go_wp2_with fail
          go_roundg k1
          case measure => exact Nat.lt_succ_self _
          case rel => exact ⟨j + 1, q + 25, acc2, _, rfl, ⟨by have := HJ.out; have := HJN.out; have := HQ0.out; omega⟩, ⟨HR6.out.far HBN.out.1 HBN.out.2 _⟩, ⟨blk_set HT6.out 4 _⟩, ⟨Kd.R_mono (Kd.R_far (p := ⟨w3.heap.size, 4, none⟩) (Kd.R_types HO6.out HT6.out (by decide)) (fun _ hk => hk.2) _) (fun _ _ => trivial)⟩, ⟨by rw [← HM.out]; exact HA2.out⟩, ⟨by rw [← HM.out]; exact HE2.out⟩, HL2⟩
        · skip
          have HVQ := Aside0.mk hvq
          have HE2 := Aside0.mk (show viewE s q = c by unfold viewsE at he; rwa [if_neg hvq] at he)
          have HQ0 := Aside0.mk (show 0 ≤ q ∧ q ≤ s.size from ⟨by have := HJ.out; have := HN.out; omega, HJ.out.2.2.2.2⟩)
          have HRd := Aside0.mk (HRS.out.below HG.out (W1 := wr.drew) (below_drew (Below.refl _ _)))
          have HTd := Aside0.mk (show wr.drew.heap[w3.heap.size]? = _ from HTS.out)
          have HOd := Aside0.mk (Kd.R_drew HOS.out)
          clear hj he ha hvq hm
          go_wp2_with fail
          refine start_ (n := 8) (S := fun w' => w'.cell? ⟨w.heap.size, 0, none⟩ = some (.pointer (some ⟨g, 0, none⟩)) ∧ w'.cell? ⟨w3.heap.size, 4, none⟩ = some (.slice Av acc.length cv)) (ds := [7]) #[false, false, false, false, false, false, false, false] (by kernel_rfl) rfl rfl ⟨cellAt (i := 0) HRd.out.b0 rfl, cellAt (i := 4) HTd.out rfl⟩ (fun hHeld => ?_)
          generalize wr.drew = wd at HRd HTd HOd hHeld ⊢
          refine pure_ (i := 0) (N := some 18) (v := ?_) (a' := ?_) #[true, false, false, false, false, false, false, false] rfl rfl (by kernel_rfl) (fun _ _ _ h => h) (Or.inl ⟨by rfl, ?_⟩) ?_ ?_
          rotate_left
          · intro w'
            go_simp
            with_reducible rfl
          rotate_left
          · simp only [Act.put, List.setIfInBounds_toArray, List.set_cons_zero, List.set_cons_succ, i64_w, i32_w]
            rfl
          refine take_ (i := 1) (N := some 19) (v := ?_) (a' := ?_) #[true, true, false, false, false, false, false, false] rfl rfl (by kernel_rfl) (fun _ _ _ h => h) (Or.inl ⟨by rfl, ?_⟩) hHeld ?_ ?_
          rotate_left
          · rintro w' ⟨s0, s1⟩
            go_simp
            with_reducible rfl
          rotate_left
          · simp only [Act.put, List.setIfInBounds_toArray, List.set_cons_zero, List.set_cons_succ, i64_w, i32_w]
            rfl
          refine take_ (i := 2) (N := some 20) (v := ?_) (a' := ?_) #[true, true, true, false, false, false, false, false] rfl rfl (by kernel_rfl) (fun _ _ _ h => h) (Or.inl ⟨by rfl, ?_⟩) hHeld ?_ ?_
          rotate_left
          · rintro w' ⟨s0, s1⟩
            go_simp
            with_reducible rfl
          rotate_left
          · simp only [Act.put, List.setIfInBounds_toArray, List.set_cons_zero, List.set_cons_succ, i64_w, i32_w]
            rfl
          refine one_ (i := 3) (N := some 21) #[true, true, true, true, false, false, false, false] rfl rfl (by kernel_rfl) (by decide) (fun K hK => ?_)
          refine goesP_ Try.func34 (by kernel_rfl) rfl #[.agg #[.pointer (some ⟨g, 0, none⟩)]] (by rfl) rfl rfl (by (try simp only [List.map_toArray, List.map_cons, List.map_nil]); first | done | rfl) ?_
          with_reducible refine (reader_view_bad g s q _ w0 _ HRd.out.rd HRd.out.bel HQ0.out.1 HQ0.out.2 HN.out.2.2 rfl HVQ.out).mono ?_
          rintro e w5 ⟨rfl, hb, hk⟩
          rw [HE2.out] at *
          exact ⟨_, rfl, rfl, rfl, hb, HRd.out.keep.trans hk (.inl rfl)⟩
      · have := HES.out
        rw [show n.toNat - j.toNat = 0 by have := HJ.out; omega] at this
        exact absurd this.symm HCC.out
end Go.Proofs.Ytlkemknhmfjdpaa.P
