import Derived.Test.YtlkemknhmfjdpaaHandX
/- Print, by hand: its panics are caught. -/
namespace Go.Proofs.Ytlkemknhmfjdpaa.P
open Go.RowKit Go.Proofs.YtlkemknhmfjdpaaW.PrintWords Go.Proofs.YtlkemknhmfjdpaaW.PrintLast Go.Proofs.YtlkemknhmfjdpaaW.PrintMore
attribute [local go_sem] max2_int min2_int max_two min_two max_three min_three max_four min_four
set_option linter.unusedVariables false
set_option linter.unusedSimpArgs false

/-! ### caught -/
set_option maxHeartbeats 1000000 in
theorem caught_err (c : Int) (w : World) : Calls Try.prog 21 #[.iface 36 (.int .i64 c)] w fun e w' => e = .returned (.int .i64 c) ∧ w = w' := by
  have hta : ∀ w : World, (Instr.typeAssert (.iface 36 (.int .i64 c)) 20 36 true).run Try.prog w = .ok (.tuple #[.int .i64 c, .bool true]) w := fun w => by kernel_rfl
  go_enter Try.func21, Try.ntmps21
  go_wp2
  go_ret
  exact ⟨rfl, rfl⟩
set_option maxHeartbeats 1000000 in
theorem caught_nil (w : World) : Calls Try.prog 21 #[.nilIface] w fun e w' => e = .returned (.int .i64 0) ∧ w = w' := by
  have hta : ∀ w : World, (Instr.typeAssert .nilIface 20 36 true).run Try.prog w = .ok (.tuple #[.int .i64 0, .bool false]) w := fun w => by kernel_rfl
  go_enter Try.func21, Try.ntmps21
  go_wp2
  go_ret
  exact ⟨rfl, rfl⟩
/-! ### The closures -/
set_option maxHeartbeats 4000000 in
theorem print_catch (b0 b1 : Nat) (x0 : ByteArray) (x1 c : Int) (hc : c ≠ 0) (w : World) (h0 : w.heap[b0]? = some (.cells #[.string x0] 9 (0, 0))) (h1 : w.heap[b1]? = some (.cells #[.int .i64 x1] 36 (0, 0))) :
    CallsD Try.prog 20 #[.pointer (some ⟨b0, 0, none⟩), .pointer (some ⟨b1, 0, none⟩)] (.panicking ({ v := .iface 36 (.int .i64 c), recovered := false } :: [])) w fun e u' w' =>
      e = .returned (.tuple #[]) ∧ u' = .panicking ({ v := .iface 36 (.int .i64 c), recovered := true } :: []) ∧ w' = (w.setCell ⟨b0, 0, none⟩ (.string ⟨#[]⟩)).setCell ⟨b1, 0, none⟩ (.int .i64 c) := by
  have n1 : b1 ≠ b0 := blk_ne h1 h0 (by decide)
  have c0 : w.cell? ⟨b0, 0, none⟩ = some (.string x0) := (blk_cell h0 0).trans rfl
  have f0 := blk_frozen h0 0
  have k1 := blk_far (p := ⟨b0, 0, none⟩) h1 n1 (.string ⟨#[]⟩)
  have c1 : (w.setCell ⟨b0, 0, none⟩ (.string ⟨#[]⟩)).cell? ⟨b1, 0, none⟩ = some (.int .i64 x1) := (blk_cell k1 0).trans rfl
  have f1 := blk_frozen k1 0
  have hb : (c != 0) = true := bne_iff_ne.mpr hc
  clear k1 h0 h1 n1 hc
  refine callsD_of_wpS Try.func20 rfl fun c₀ cs hu => ?_
  apply wpS_seq
  apply wpS_region
  simp [wpOpsS, go_sem, recoverD, hu, Try.ntmps20, Exit.thenS]
  refine (caught_err c _).mono ?_
  rintro e w' ⟨rfl, rfl⟩
  refine wpS_of_wp ?_
  go_wp2
  exact ⟨rfl, _, rfl, .tuple #[], by simp [results, Try.results20], rfl, rfl, rfl⟩
set_option maxHeartbeats 4000000 in
theorem print_idle (b0 b1 : Nat) (w : World) :
    CallsD Try.prog 20 #[.pointer (some ⟨b0, 0, none⟩), .pointer (some ⟨b1, 0, none⟩)] .returning w fun e u' w' => e = .returned (.tuple #[]) ∧ u' = .returning ∧ w' = w := by
  refine callsD_of_wpS Try.func20 rfl fun c₀ cs hu => ?_
  apply wpS_seq
  apply wpS_region
  simp [wpOpsS, go_sem, recoverD, hu, Try.ntmps20, Exit.thenS]
  refine (caught_nil _).mono ?_
  rintro e w' ⟨rfl, rfl⟩
  refine wpS_of_wp ?_
  go_wp2
  exact ⟨rfl, .returning, by rw [← hu], .tuple #[], by simp [results, Try.results20], rfl, rfl, rfl⟩
set_option maxHeartbeats 4000000 in
theorem printItem_idle (b0 b1 : Nat) (w : World) :
    CallsD Try.prog 30 #[.pointer (some ⟨b0, 0, none⟩), .pointer (some ⟨b1, 0, none⟩)] .returning w fun e u' w' => e = .returned (.tuple #[]) ∧ u' = .returning ∧ w' = w := by
  refine callsD_of_wpS Try.func30 rfl fun c₀ cs hu => ?_
  apply wpS_seq
  apply wpS_region
  simp [wpOpsS, go_sem, recoverD, hu, Try.ntmps30, Exit.thenS]
  refine (caught_nil _).mono ?_
  rintro e w' ⟨rfl, rfl⟩
  refine wpS_of_wp ?_
  go_wp2
  exact ⟨rfl, .returning, by rw [← hu], .tuple #[], by simp [results, Try.results30], rfl, rfl, rfl⟩
end Go.Proofs.Ytlkemknhmfjdpaa.P
/- Print's contract, by hand. -/
namespace Go.Proofs.Ytlkemknhmfjdpaa.P
open Go.RowKit Go.Proofs.YtlkemknhmfjdpaaW.PrintWords Go.Proofs.YtlkemknhmfjdpaaW.PrintLast Go.Proofs.YtlkemknhmfjdpaaW.PrintMore
attribute [local go_sem] max2_int min2_int max_two min_two max_three min_three max_four min_four
set_option linter.unusedVariables false
set_option linter.unusedSimpArgs false

theorem C27_keep {w w1 W' : World} {A : Option Addr} {n g : Nat} {l : List S27} (h : Kd.C k27 w A n l) (hb : Below w.heap.size w w1) (hk : KeepBut w1 W' g none) (hg : w.heap.size ≤ g) : Kd.C k27 W' A n l :=
  ⟨h.1, h.2.1, fun hn => by
    obtain ⟨ad, e, hc⟩ := h.2.2 hn
    refine ⟨ad, e, fun j p hj => ?_⟩
    obtain ⟨cs, hl, hK, hcs⟩ := hc j p hj
    refine ⟨cs, hl, k27_open hK ▸ k27_mk W' p, fun i u hu => ?_⟩
    have h1 := hcs i u hu
    exact keep_cell hk (pw_cell_below hb h1) (by have := World.block_lt_of_cell? w _ h1; omega)⟩
/-- The two results' variables. -/
abbrev resW (w : World) : World := (w.alloc (.cells #[.string ⟨#[]⟩] 9)).alloc (.cells #[.int .i64 0] 36)
section
variable {w0 w W7 : World} {g : Nat}
theorem heap_old {W : World} {i : Nat} {o : Obj} (h : W.heap[i]? = some o) (o2 : Obj) : (W.alloc o2).heap[i]? = some o := ((below_alloc (Below.refl _ _) o2).block i (blk_lt h)).trans h
theorem resW_b0 : (resW w).heap[w.heap.size]? = some (.cells #[.string ⟨#[]⟩] 9 (0, 0)) := heap_old (heap_alloc_new w _) _
theorem resW_b1 : (resW w).heap[w.heap.size + 1]? = some (.cells #[.int .i64 0] 36 (0, 0)) := by have := heap_alloc_new (w.alloc (.cells #[.string ⟨#[]⟩] 9)) (.cells #[.int .i64 0] 36); simpa using this
theorem resW_size : (resW w).heap.size = w.heap.size + 1 + 1 := by simp
/-- The results as they are, and as they will be. -/
structure Res (w0 W : World) (b : Nat) : Prop where
  b0 : W.heap[b]? = some (.cells #[.string ⟨#[]⟩] 9 (0, 0))
  b1 : W.heap[b + 1]? = some (.cells #[.int .i64 0] 36 (0, 0))
  ge : w0.heap.size ≤ b
  bel : Below w0.heap.size w0 W
theorem Res.cells {W : World} {b : Nat} (h : Res w0 W b) (t : ByteArray) : (W.cell? ⟨b, 0, none⟩ = some (.string ⟨#[]⟩) ∧ W.frozen? ⟨b, 0, none⟩ = false) ∧
    ((W.setCell ⟨b, 0, none⟩ (.string t)).cell? ⟨b + 1, 0, none⟩ = some (.int .i64 0) ∧ (W.setCell ⟨b, 0, none⟩ (.string t)).frozen? ⟨b + 1, 0, none⟩ = false) := by
  have p := blk_far (p := ⟨b, 0, none⟩) h.b1 (show b + 1 ≠ b by omega) (.string t)
  exact ⟨⟨cellAt h.b0 rfl, blk_frozen h.b0 0⟩, ⟨cellAt p rfl, blk_frozen p 0⟩⟩
theorem Res.end_ {W : World} {b : Nat} (h : Res w0 W b) (t : ByteArray) (c : Int) :
    ∃ W8, W8 = (W.setCell ⟨b, 0, none⟩ (.string t)).setCell ⟨b + 1, 0, none⟩ (.int .i64 c) ∧ W8.cell? ⟨b, 0, none⟩ = some (.string t) ∧ W8.cell? ⟨b + 1, 0, none⟩ = some (.int .i64 c) ∧ Below w0.heap.size w0 W8 := by
  have p0 := blk_far (p := ⟨b + 1, 0, none⟩) (blk_set h.b0 0 (.string t)) (show b ≠ b + 1 by omega) (.int .i64 c)
  have p1 := blk_set (blk_far (p := ⟨b, 0, none⟩) h.b1 (show b + 1 ≠ b by omega) (.string t)) 0 (.int .i64 c)
  exact ⟨_, rfl, cellAt p0 rfl, cellAt p1 rfl, below_set (below_set h.bel h.ge) (by have := h.ge; omega)⟩
theorem Res.keep {W W1 : World} {b g : Nat} (h : Res w0 W b) (hk : KeepBut W W1 g none) (hg : b + 1 < g) (hb : Below w0.heap.size w0 W1) : Res w0 W1 b :=
  ⟨hk.blk h.b0 (by omega) (by simp), hk.blk h.b1 (by omega) (by simp), h.ge, hb⟩
end
abbrev prW (w : World) : World := (resW w).alloc (.cells #[.slice none 0 0] 67)
/-- What stands behind Print's preparations, at its writer's block. -/
theorem newW {w w8 : World} {g : Nat} (hg : w.heap.size ≤ g) (hb : w8.heap[g]? = some (.cells #[.slice none 0 0] 67 (0, 0))) : IsW w w8 g [] := ⟨_, hb, hg, Kd.R_nil _ _ _ _ _⟩
set_option maxHeartbeats 8000000 in
set_option maxRecDepth 100000 in
theorem log_Print_good (a0 a1 n ep rep mem : Int) (A : Option Addr) (c : Nat) (l : List S27) (w : World) (hC : Kd.C k27 w A l.length l) (h5 : 0 ≤ a1 ∧ a1 ≤ 4294967295) (h0 : 0 ≤ rep ∧ rep < 64) (h2 : l.length ≤ 32) (h3 : ∀ x ∈ l, sOk x) :
    Calls Try.prog 7 #[.agg #[.int .u64 a0, .int .u32 a1, .int .u64 n, .int .u64 ep, .int .i64 rep, .int .u64 mem, .slice A l.length c]] w fun e w' => e = .returned (.tuple #[.string (strOfNums (([] ++ Pure.putL 1 1 ++ Pure.putL a0 8 ++ Pure.putL a1 4) ++ recB n ep rep mem l)), .int .i64 0]) ∧ Below w.heap.size w w' := by
  have HCD := Aside0.mk (show (0 ≤ rep ∧ rep < 64) ∧ l.length ≤ 32 ∧ ∀ x ∈ l, sOk x from ⟨h0, h2, h3⟩)
  clear h0 h2 h3
  have HC := Aside0.mk hC
  have HWR := Aside0.mk (show IntKind.u64.wrap a1 = a1 by simp [IntKind.wrap, IntKind.bits, IntKind.signed]; omega)
  clear hC h5
  have hmf : ∀ (fn : Fn) (first cap : Array Value) (w : World), (Instr.makeFunc fn first cap).run Try.prog w = .ok (.func fn first cap) w := fun _ _ _ _ => rfl
  go_enter_defers Try.func7, Try.ntmps7
  go_wp2_with (first | ((with_reducible refine gate_dst (N := 1) rfl ?_); refine box_event ?hg (N := 1) ?hd (cs := #[.int .u64 a0, .int .u32 a1, .int .u64 n, .int .u64 ep, .int .i64 rep, .int .u64 mem, .slice A l.length c]) (t := 32) ?hr ?_; (case hd => rfl); (case hg => rfl); (case hr => first | (go_simp; done) | (go_simp; rfl)); intro gb hg w7 hbox hb; have HB7 := Aside0.mk hb; have HX7 := Aside0.mk hbox; have HGB := Aside0.mk hg; clear hbox hb hg; have HB1 := Aside0.mk (show Below w.heap.size w (prW w7) from below_alloc (below_alloc (below_alloc HB7.out _) _) _); have HK1 := Aside0.mk (KeepBut.refl (prW w7) (w7.heap.size + 1 + 1) none); have HX1 := Aside0.mk (show (prW w7).heap[gb]? = _ from heap_old (heap_old (heap_old HX7.out _) _) _); have HNE := Aside0.mk (show gb ≠ w7.heap.size + 1 + 1 by have := blk_lt HX7.out; omega); have HRS := Aside0.mk (show Res w (prW w7) w7.heap.size from ⟨heap_old resW_b0 _, heap_old resW_b1 _, HB7.out.size, HB1.out⟩); have HI1 := Aside0.mk (newW (w := w) (w8 := prW w7) (g := w7.heap.size + 1 + 1) (by have := HB7.out.size; omega) (by have := heap_alloc_new (resW w7) (.cells #[.slice none 0 0] 67); rwa [resW_size] at this)); have c0 := cellAt (i := 0) HX1.out rfl; have c1 := cellAt (i := 1) HX1.out rfl; have c2 := cellAt (i := 2) HX1.out rfl; have c3 := cellAt (i := 3) HX1.out rfl; have c4 := cellAt (i := 4) HX1.out rfl; have c5 := cellAt (i := 5) HX1.out rfl; have c6 := cellAt (i := 6) HX1.out rfl;  ) | (go_at_call 22; (with_reducible refine (writer_num' (w7.heap.size + 1 + 1) [] 1 1 1 rfl w _ HI1.out HB1.out (by (try simp only [List.length_append, Pure.putL_length, List.length_nil]); omega)).mono ?_); clear c0 c1 c2 c3 c4 c5 c6; rintro e w_2 ⟨rfl, hi, hb, hk⟩; have HI2 := Aside0.mk hi; have HB2 := Aside0.mk hb; have HK2 := Aside0.mk (HK1.out.trans hk (.inl rfl)); have HX2 := Aside0.mk (hk.blk HX1.out HNE.out (by simp)); have c0 := cellAt (i := 0) HX2.out rfl; have c1 := cellAt (i := 1) HX2.out rfl; have c2 := cellAt (i := 2) HX2.out rfl; have c3 := cellAt (i := 3) HX2.out rfl; have c4 := cellAt (i := 4) HX2.out rfl; have c5 := cellAt (i := 5) HX2.out rfl; have c6 := cellAt (i := 6) HX2.out rfl;  clear hi hb hk) | (go_at_call 22; (with_reducible refine (writer_num' (w7.heap.size + 1 + 1) ([] ++ Pure.putL 1 1) a0 8 8 rfl w _ HI2.out HB2.out (by (try simp only [List.length_append, Pure.putL_length, List.length_nil]); omega)).mono ?_); clear c0 c1 c2 c3 c4 c5 c6; rintro e w_3 ⟨rfl, hi, hb, hk⟩; have HI3 := Aside0.mk hi; have HB3 := Aside0.mk hb; have HK3 := Aside0.mk (HK2.out.trans hk (.inl rfl)); have HX3 := Aside0.mk (hk.blk HX2.out HNE.out (by simp)); have c0 := cellAt (i := 0) HX3.out rfl; have c1 := cellAt (i := 1) HX3.out rfl; have c2 := cellAt (i := 2) HX3.out rfl; have c3 := cellAt (i := 3) HX3.out rfl; have c4 := cellAt (i := 4) HX3.out rfl; have c5 := cellAt (i := 5) HX3.out rfl; have c6 := cellAt (i := 6) HX3.out rfl;  clear hi hb hk) | (go_at_call 22; (with_reducible refine (writer_num' (w7.heap.size + 1 + 1) ([] ++ Pure.putL 1 1 ++ Pure.putL a0 8) (IntKind.u64.wrap a1) 4 4 rfl w _ HI3.out HB3.out (by (try simp only [List.length_append, Pure.putL_length, List.length_nil]); omega)).mono ?_); clear c0 c1 c2 c3 c4 c5 c6; rintro e w_4 ⟨rfl, hi, hb, hk⟩; rw [HWR.out] at hi; have HI4 := Aside0.mk hi; have HB4 := Aside0.mk hb; have HK4 := Aside0.mk (HK3.out.trans hk (.inl rfl)); have HX4 := Aside0.mk (hk.blk HX3.out HNE.out (by simp)); have c0 := cellAt (i := 0) HX4.out rfl; have c1 := cellAt (i := 1) HX4.out rfl; have c2 := cellAt (i := 2) HX4.out rfl; have c3 := cellAt (i := 3) HX4.out rfl; have c4 := cellAt (i := 4) HX4.out rfl; have c5 := cellAt (i := 5) HX4.out rfl; have c6 := cellAt (i := 6) HX4.out rfl;  clear hi hb hk) | (go_at_call 23; (with_reducible refine (writer_record_good (w7.heap.size + 1 + 1) ([] ++ Pure.putL 1 1 ++ Pure.putL a0 8 ++ Pure.putL a1 4) n ep rep mem A c l w _ HI4.out HB4.out (by (try simp only [List.length_append, Pure.putL_length, List.length_nil]); omega) (fun W' hk' => C27_keep HC.out HB4.out hk' (by have := HB7.out.size; omega)) HCD.out.1.1 HCD.out.1.2 HCD.out.2.1 HCD.out.2.2).mono ?_); clear c0 c1 c2 c3 c4 c5 c6; rintro e w9 ⟨rfl, hi, hb, hk⟩; have HRE := Aside0.mk (HRS.out.keep (HK4.out.trans hk (.inl rfl)) (by omega) hb); obtain ⟨YS, hYS⟩ : ∃ Y, Y = ([] ++ Pure.putL 1 1 ++ Pure.putL a0 8 ++ Pure.putL a1 4) ++ recB n ep rep mem l := ⟨_, rfl⟩; rw [← hYS] at hi; have HYS := Aside0.mk hYS; clear hYS; obtain ⟨v9, hv, hge, hr⟩ := hi; obtain ⟨A9, k9, rfl⟩ := Kd.R_slice hr; have cw := cellAt (i := 0) hv rfl; have hcv := own_string (P := Try.prog) Try.underlying65 Try.underlying5 Try.underlying9 (Kd.own_of_R hr); obtain ⟨S, hS⟩ : ∃ S, S = strOfNums YS := ⟨_, rfl⟩; rw [← hS] at hcv; have HS := Aside0.mk hS; obtain ⟨⟨r0, f0⟩, ⟨r1, f1⟩⟩ := HRE.out.cells S; clear hb hk hS hv hge hr))
  clear r0 r1 f0 f1 hcv cw
  refine leaves_cons (f := 20) (args := #[.pointer (some ⟨w7.heap.size, 0, none⟩), .pointer (some ⟨w7.heap.size + 1, 0, none⟩)]) (by simp) (by simp [go_sem]) ?_
  refine (print_idle w7.heap.size (w7.heap.size + 1) _).mono ?_
  rintro e u' w'' ⟨rfl, rfl, rfl⟩
  obtain ⟨W8, h8, c1, c2, hb⟩ := HRE.out.end_ S 0
  rw [← h8]
  clear h8
  simp [Leaves, settle, results, Try.results7, go_sem, c1, c2]
  exact ⟨by rw [HS.out, HYS.out]; rfl, hb⟩
set_option maxHeartbeats 8000000 in
set_option maxRecDepth 100000 in
theorem log_Print_bad1 (a0 a1 n ep rep mem : Int) (A : Option Addr) (c : Nat) (l : List S27) (w : World) (hC : Kd.C k27 w A l.length l) (h5 : 0 ≤ a1 ∧ a1 ≤ 4294967295) (hb : rep < 0 ∨ 64 ≤ rep) :
    Calls Try.prog 7 #[.agg #[.int .u64 a0, .int .u32 a1, .int .u64 n, .int .u64 ep, .int .i64 rep, .int .u64 mem, .slice A l.length c]] w fun e w' => e = .returned (.tuple #[.string ⟨#[]⟩, .int .i64 1]) ∧ Below w.heap.size w w' := by
  have HCD := Aside0.mk hb
  clear hb
  have HC := Aside0.mk hC
  have HWR := Aside0.mk (show IntKind.u64.wrap a1 = a1 by simp [IntKind.wrap, IntKind.bits, IntKind.signed]; omega)
  clear hC h5
  have hmf : ∀ (fn : Fn) (first cap : Array Value) (w : World), (Instr.makeFunc fn first cap).run Try.prog w = .ok (.func fn first cap) w := fun _ _ _ _ => rfl
  go_enter_defers Try.func7, Try.ntmps7
  go_wp2_with (first | ((with_reducible refine gate_dst (N := 1) rfl ?_); refine box_event ?hg (N := 1) ?hd (cs := #[.int .u64 a0, .int .u32 a1, .int .u64 n, .int .u64 ep, .int .i64 rep, .int .u64 mem, .slice A l.length c]) (t := 32) ?hr ?_; (case hd => rfl); (case hg => rfl); (case hr => first | (go_simp; done) | (go_simp; rfl)); intro gb hg w7 hbox hb; have HB7 := Aside0.mk hb; have HX7 := Aside0.mk hbox; have HGB := Aside0.mk hg; clear hbox hb hg; have HB1 := Aside0.mk (show Below w.heap.size w (prW w7) from below_alloc (below_alloc (below_alloc HB7.out _) _) _); have HK1 := Aside0.mk (KeepBut.refl (prW w7) (w7.heap.size + 1 + 1) none); have HX1 := Aside0.mk (show (prW w7).heap[gb]? = _ from heap_old (heap_old (heap_old HX7.out _) _) _); have HNE := Aside0.mk (show gb ≠ w7.heap.size + 1 + 1 by have := blk_lt HX7.out; omega); have HRS := Aside0.mk (show Res w (prW w7) w7.heap.size from ⟨heap_old resW_b0 _, heap_old resW_b1 _, HB7.out.size, HB1.out⟩); have HI1 := Aside0.mk (newW (w := w) (w8 := prW w7) (g := w7.heap.size + 1 + 1) (by have := HB7.out.size; omega) (by have := heap_alloc_new (resW w7) (.cells #[.slice none 0 0] 67); rwa [resW_size] at this)); have c0 := cellAt (i := 0) HX1.out rfl; have c1 := cellAt (i := 1) HX1.out rfl; have c2 := cellAt (i := 2) HX1.out rfl; have c3 := cellAt (i := 3) HX1.out rfl; have c4 := cellAt (i := 4) HX1.out rfl; have c5 := cellAt (i := 5) HX1.out rfl; have c6 := cellAt (i := 6) HX1.out rfl;  ) | (go_at_call 22; (with_reducible refine (writer_num' (w7.heap.size + 1 + 1) [] 1 1 1 rfl w _ HI1.out HB1.out (by (try simp only [List.length_append, Pure.putL_length, List.length_nil]); omega)).mono ?_); clear c0 c1 c2 c3 c4 c5 c6; rintro e w_2 ⟨rfl, hi, hb, hk⟩; have HI2 := Aside0.mk hi; have HB2 := Aside0.mk hb; have HK2 := Aside0.mk (HK1.out.trans hk (.inl rfl)); have HX2 := Aside0.mk (hk.blk HX1.out HNE.out (by simp)); have c0 := cellAt (i := 0) HX2.out rfl; have c1 := cellAt (i := 1) HX2.out rfl; have c2 := cellAt (i := 2) HX2.out rfl; have c3 := cellAt (i := 3) HX2.out rfl; have c4 := cellAt (i := 4) HX2.out rfl; have c5 := cellAt (i := 5) HX2.out rfl; have c6 := cellAt (i := 6) HX2.out rfl;  clear hi hb hk) | (go_at_call 22; (with_reducible refine (writer_num' (w7.heap.size + 1 + 1) ([] ++ Pure.putL 1 1) a0 8 8 rfl w _ HI2.out HB2.out (by (try simp only [List.length_append, Pure.putL_length, List.length_nil]); omega)).mono ?_); clear c0 c1 c2 c3 c4 c5 c6; rintro e w_3 ⟨rfl, hi, hb, hk⟩; have HI3 := Aside0.mk hi; have HB3 := Aside0.mk hb; have HK3 := Aside0.mk (HK2.out.trans hk (.inl rfl)); have HX3 := Aside0.mk (hk.blk HX2.out HNE.out (by simp)); have c0 := cellAt (i := 0) HX3.out rfl; have c1 := cellAt (i := 1) HX3.out rfl; have c2 := cellAt (i := 2) HX3.out rfl; have c3 := cellAt (i := 3) HX3.out rfl; have c4 := cellAt (i := 4) HX3.out rfl; have c5 := cellAt (i := 5) HX3.out rfl; have c6 := cellAt (i := 6) HX3.out rfl;  clear hi hb hk) | (go_at_call 22; (with_reducible refine (writer_num' (w7.heap.size + 1 + 1) ([] ++ Pure.putL 1 1 ++ Pure.putL a0 8) (IntKind.u64.wrap a1) 4 4 rfl w _ HI3.out HB3.out (by (try simp only [List.length_append, Pure.putL_length, List.length_nil]); omega)).mono ?_); clear c0 c1 c2 c3 c4 c5 c6; rintro e w_4 ⟨rfl, hi, hb, hk⟩; rw [HWR.out] at hi; have HI4 := Aside0.mk hi; have HB4 := Aside0.mk hb; have HK4 := Aside0.mk (HK3.out.trans hk (.inl rfl)); have HX4 := Aside0.mk (hk.blk HX3.out HNE.out (by simp)); have c0 := cellAt (i := 0) HX4.out rfl; have c1 := cellAt (i := 1) HX4.out rfl; have c2 := cellAt (i := 2) HX4.out rfl; have c3 := cellAt (i := 3) HX4.out rfl; have c4 := cellAt (i := 4) HX4.out rfl; have c5 := cellAt (i := 5) HX4.out rfl; have c6 := cellAt (i := 6) HX4.out rfl;  clear hi hb hk) | (go_at_call 23; (with_reducible refine (writer_record_bad1 (w7.heap.size + 1 + 1) ([] ++ Pure.putL 1 1 ++ Pure.putL a0 8 ++ Pure.putL a1 4) n ep rep mem A c l w _ HI4.out HB4.out (by (try simp only [List.length_append, Pure.putL_length, List.length_nil]); omega) (fun W' hk' => C27_keep HC.out HB4.out hk' (by have := HB7.out.size; omega)) HCD.out).mono ?_); clear c0 c1 c2 c3 c4 c5 c6; rintro e w9 ⟨rfl, hb, hk⟩; have HRE := Aside0.mk (HRS.out.keep (HK4.out.trans hk (.inl rfl)) (by omega) hb); clear hb hk))
  refine leaves_cons (f := 20) (args := #[.pointer (some ⟨w7.heap.size, 0, none⟩), .pointer (some ⟨w7.heap.size + 1, 0, none⟩)]) (by simp) (by simp [go_sem]) ?_
  refine (print_catch w7.heap.size (w7.heap.size + 1) ⟨#[]⟩ 0 1 (by decide) w9 HRE.out.b0 HRE.out.b1).mono ?_
  rintro e u' w'' ⟨rfl, rfl, rfl⟩
  obtain ⟨W8, h8, c1, c2, hb⟩ := HRE.out.end_ ⟨#[]⟩ 1
  rw [← h8]
  clear h8
  simp [Leaves, settle, results, Try.results7, go_sem, c1, c2]
  exact hb
set_option maxHeartbeats 8000000 in
set_option maxRecDepth 100000 in
theorem log_Print_bad3 (a0 a1 n ep rep mem : Int) (A : Option Addr) (c : Nat) (l : List S27) (w : World) (hC : Kd.C k27 w A l.length l) (h5 : 0 ≤ a1 ∧ a1 ≤ 4294967295) (h0 : 0 ≤ rep ∧ rep < 64) (h2 : 32 < l.length) :
    Calls Try.prog 7 #[.agg #[.int .u64 a0, .int .u32 a1, .int .u64 n, .int .u64 ep, .int .i64 rep, .int .u64 mem, .slice A l.length c]] w fun e w' => e = .returned (.tuple #[.string ⟨#[]⟩, .int .i64 3]) ∧ Below w.heap.size w w' := by
  have HCD := Aside0.mk (show (0 ≤ rep ∧ rep < 64) ∧ 32 < l.length from ⟨h0, h2⟩)
  clear h0 h2
  have HC := Aside0.mk hC
  have HWR := Aside0.mk (show IntKind.u64.wrap a1 = a1 by simp [IntKind.wrap, IntKind.bits, IntKind.signed]; omega)
  clear hC h5
  have hmf : ∀ (fn : Fn) (first cap : Array Value) (w : World), (Instr.makeFunc fn first cap).run Try.prog w = .ok (.func fn first cap) w := fun _ _ _ _ => rfl
  go_enter_defers Try.func7, Try.ntmps7
  go_wp2_with (first | ((with_reducible refine gate_dst (N := 1) rfl ?_); refine box_event ?hg (N := 1) ?hd (cs := #[.int .u64 a0, .int .u32 a1, .int .u64 n, .int .u64 ep, .int .i64 rep, .int .u64 mem, .slice A l.length c]) (t := 32) ?hr ?_; (case hd => rfl); (case hg => rfl); (case hr => first | (go_simp; done) | (go_simp; rfl)); intro gb hg w7 hbox hb; have HB7 := Aside0.mk hb; have HX7 := Aside0.mk hbox; have HGB := Aside0.mk hg; clear hbox hb hg; have HB1 := Aside0.mk (show Below w.heap.size w (prW w7) from below_alloc (below_alloc (below_alloc HB7.out _) _) _); have HK1 := Aside0.mk (KeepBut.refl (prW w7) (w7.heap.size + 1 + 1) none); have HX1 := Aside0.mk (show (prW w7).heap[gb]? = _ from heap_old (heap_old (heap_old HX7.out _) _) _); have HNE := Aside0.mk (show gb ≠ w7.heap.size + 1 + 1 by have := blk_lt HX7.out; omega); have HRS := Aside0.mk (show Res w (prW w7) w7.heap.size from ⟨heap_old resW_b0 _, heap_old resW_b1 _, HB7.out.size, HB1.out⟩); have HI1 := Aside0.mk (newW (w := w) (w8 := prW w7) (g := w7.heap.size + 1 + 1) (by have := HB7.out.size; omega) (by have := heap_alloc_new (resW w7) (.cells #[.slice none 0 0] 67); rwa [resW_size] at this)); have c0 := cellAt (i := 0) HX1.out rfl; have c1 := cellAt (i := 1) HX1.out rfl; have c2 := cellAt (i := 2) HX1.out rfl; have c3 := cellAt (i := 3) HX1.out rfl; have c4 := cellAt (i := 4) HX1.out rfl; have c5 := cellAt (i := 5) HX1.out rfl; have c6 := cellAt (i := 6) HX1.out rfl;  ) | (go_at_call 22; (with_reducible refine (writer_num' (w7.heap.size + 1 + 1) [] 1 1 1 rfl w _ HI1.out HB1.out (by (try simp only [List.length_append, Pure.putL_length, List.length_nil]); omega)).mono ?_); clear c0 c1 c2 c3 c4 c5 c6; rintro e w_2 ⟨rfl, hi, hb, hk⟩; have HI2 := Aside0.mk hi; have HB2 := Aside0.mk hb; have HK2 := Aside0.mk (HK1.out.trans hk (.inl rfl)); have HX2 := Aside0.mk (hk.blk HX1.out HNE.out (by simp)); have c0 := cellAt (i := 0) HX2.out rfl; have c1 := cellAt (i := 1) HX2.out rfl; have c2 := cellAt (i := 2) HX2.out rfl; have c3 := cellAt (i := 3) HX2.out rfl; have c4 := cellAt (i := 4) HX2.out rfl; have c5 := cellAt (i := 5) HX2.out rfl; have c6 := cellAt (i := 6) HX2.out rfl;  clear hi hb hk) | (go_at_call 22; (with_reducible refine (writer_num' (w7.heap.size + 1 + 1) ([] ++ Pure.putL 1 1) a0 8 8 rfl w _ HI2.out HB2.out (by (try simp only [List.length_append, Pure.putL_length, List.length_nil]); omega)).mono ?_); clear c0 c1 c2 c3 c4 c5 c6; rintro e w_3 ⟨rfl, hi, hb, hk⟩; have HI3 := Aside0.mk hi; have HB3 := Aside0.mk hb; have HK3 := Aside0.mk (HK2.out.trans hk (.inl rfl)); have HX3 := Aside0.mk (hk.blk HX2.out HNE.out (by simp)); have c0 := cellAt (i := 0) HX3.out rfl; have c1 := cellAt (i := 1) HX3.out rfl; have c2 := cellAt (i := 2) HX3.out rfl; have c3 := cellAt (i := 3) HX3.out rfl; have c4 := cellAt (i := 4) HX3.out rfl; have c5 := cellAt (i := 5) HX3.out rfl; have c6 := cellAt (i := 6) HX3.out rfl;  clear hi hb hk) | (go_at_call 22; (with_reducible refine (writer_num' (w7.heap.size + 1 + 1) ([] ++ Pure.putL 1 1 ++ Pure.putL a0 8) (IntKind.u64.wrap a1) 4 4 rfl w _ HI3.out HB3.out (by (try simp only [List.length_append, Pure.putL_length, List.length_nil]); omega)).mono ?_); clear c0 c1 c2 c3 c4 c5 c6; rintro e w_4 ⟨rfl, hi, hb, hk⟩; rw [HWR.out] at hi; have HI4 := Aside0.mk hi; have HB4 := Aside0.mk hb; have HK4 := Aside0.mk (HK3.out.trans hk (.inl rfl)); have HX4 := Aside0.mk (hk.blk HX3.out HNE.out (by simp)); have c0 := cellAt (i := 0) HX4.out rfl; have c1 := cellAt (i := 1) HX4.out rfl; have c2 := cellAt (i := 2) HX4.out rfl; have c3 := cellAt (i := 3) HX4.out rfl; have c4 := cellAt (i := 4) HX4.out rfl; have c5 := cellAt (i := 5) HX4.out rfl; have c6 := cellAt (i := 6) HX4.out rfl;  clear hi hb hk) | (go_at_call 23; (with_reducible refine (writer_record_bad3 (w7.heap.size + 1 + 1) ([] ++ Pure.putL 1 1 ++ Pure.putL a0 8 ++ Pure.putL a1 4) n ep rep mem A c l w _ HI4.out HB4.out (by (try simp only [List.length_append, Pure.putL_length, List.length_nil]); omega) (fun W' hk' => C27_keep HC.out HB4.out hk' (by have := HB7.out.size; omega)) HCD.out.1.1 HCD.out.1.2 HCD.out.2).mono ?_); clear c0 c1 c2 c3 c4 c5 c6; rintro e w9 ⟨rfl, hb, hk⟩; have HRE := Aside0.mk (HRS.out.keep (HK4.out.trans hk (.inl rfl)) (by omega) hb); clear hb hk))
  refine leaves_cons (f := 20) (args := #[.pointer (some ⟨w7.heap.size, 0, none⟩), .pointer (some ⟨w7.heap.size + 1, 0, none⟩)]) (by simp) (by simp [go_sem]) ?_
  refine (print_catch w7.heap.size (w7.heap.size + 1) ⟨#[]⟩ 0 3 (by decide) w9 HRE.out.b0 HRE.out.b1).mono ?_
  rintro e u' w'' ⟨rfl, rfl, rfl⟩
  obtain ⟨W8, h8, c1, c2, hb⟩ := HRE.out.end_ ⟨#[]⟩ 3
  rw [← h8]
  clear h8
  simp [Leaves, settle, results, Try.results7, go_sem, c1, c2]
  exact hb
set_option maxHeartbeats 8000000 in
set_option maxRecDepth 100000 in
theorem log_Print_bad2 (a0 a1 n ep rep mem : Int) (A : Option Addr) (c : Nat) (l : List S27) (w : World) (hC : Kd.C k27 w A l.length l) (h5 : 0 ≤ a1 ∧ a1 ≤ 4294967295) (h0 : 0 ≤ rep ∧ rep < 64) (h2 : l.length ≤ 32) (h3 : ∃ x ∈ l, ¬ sOk x) :
    Calls Try.prog 7 #[.agg #[.int .u64 a0, .int .u32 a1, .int .u64 n, .int .u64 ep, .int .i64 rep, .int .u64 mem, .slice A l.length c]] w fun e w' => e = .returned (.tuple #[.string ⟨#[]⟩, .int .i64 1]) ∧ Below w.heap.size w w' := by
  have HCD := Aside0.mk (show (0 ≤ rep ∧ rep < 64) ∧ l.length ≤ 32 ∧ ∃ x ∈ l, ¬ sOk x from ⟨h0, h2, h3⟩)
  clear h0 h2 h3
  have HC := Aside0.mk hC
  have HWR := Aside0.mk (show IntKind.u64.wrap a1 = a1 by simp [IntKind.wrap, IntKind.bits, IntKind.signed]; omega)
  clear hC h5
  have hmf : ∀ (fn : Fn) (first cap : Array Value) (w : World), (Instr.makeFunc fn first cap).run Try.prog w = .ok (.func fn first cap) w := fun _ _ _ _ => rfl
  go_enter_defers Try.func7, Try.ntmps7
  go_wp2_with (first | ((with_reducible refine gate_dst (N := 1) rfl ?_); refine box_event ?hg (N := 1) ?hd (cs := #[.int .u64 a0, .int .u32 a1, .int .u64 n, .int .u64 ep, .int .i64 rep, .int .u64 mem, .slice A l.length c]) (t := 32) ?hr ?_; (case hd => rfl); (case hg => rfl); (case hr => first | (go_simp; done) | (go_simp; rfl)); intro gb hg w7 hbox hb; have HB7 := Aside0.mk hb; have HX7 := Aside0.mk hbox; have HGB := Aside0.mk hg; clear hbox hb hg; have HB1 := Aside0.mk (show Below w.heap.size w (prW w7) from below_alloc (below_alloc (below_alloc HB7.out _) _) _); have HK1 := Aside0.mk (KeepBut.refl (prW w7) (w7.heap.size + 1 + 1) none); have HX1 := Aside0.mk (show (prW w7).heap[gb]? = _ from heap_old (heap_old (heap_old HX7.out _) _) _); have HNE := Aside0.mk (show gb ≠ w7.heap.size + 1 + 1 by have := blk_lt HX7.out; omega); have HRS := Aside0.mk (show Res w (prW w7) w7.heap.size from ⟨heap_old resW_b0 _, heap_old resW_b1 _, HB7.out.size, HB1.out⟩); have HI1 := Aside0.mk (newW (w := w) (w8 := prW w7) (g := w7.heap.size + 1 + 1) (by have := HB7.out.size; omega) (by have := heap_alloc_new (resW w7) (.cells #[.slice none 0 0] 67); rwa [resW_size] at this)); have c0 := cellAt (i := 0) HX1.out rfl; have c1 := cellAt (i := 1) HX1.out rfl; have c2 := cellAt (i := 2) HX1.out rfl; have c3 := cellAt (i := 3) HX1.out rfl; have c4 := cellAt (i := 4) HX1.out rfl; have c5 := cellAt (i := 5) HX1.out rfl; have c6 := cellAt (i := 6) HX1.out rfl;  ) | (go_at_call 22; (with_reducible refine (writer_num' (w7.heap.size + 1 + 1) [] 1 1 1 rfl w _ HI1.out HB1.out (by (try simp only [List.length_append, Pure.putL_length, List.length_nil]); omega)).mono ?_); clear c0 c1 c2 c3 c4 c5 c6; rintro e w_2 ⟨rfl, hi, hb, hk⟩; have HI2 := Aside0.mk hi; have HB2 := Aside0.mk hb; have HK2 := Aside0.mk (HK1.out.trans hk (.inl rfl)); have HX2 := Aside0.mk (hk.blk HX1.out HNE.out (by simp)); have c0 := cellAt (i := 0) HX2.out rfl; have c1 := cellAt (i := 1) HX2.out rfl; have c2 := cellAt (i := 2) HX2.out rfl; have c3 := cellAt (i := 3) HX2.out rfl; have c4 := cellAt (i := 4) HX2.out rfl; have c5 := cellAt (i := 5) HX2.out rfl; have c6 := cellAt (i := 6) HX2.out rfl;  clear hi hb hk) | (go_at_call 22; (with_reducible refine (writer_num' (w7.heap.size + 1 + 1) ([] ++ Pure.putL 1 1) a0 8 8 rfl w _ HI2.out HB2.out (by (try simp only [List.length_append, Pure.putL_length, List.length_nil]); omega)).mono ?_); clear c0 c1 c2 c3 c4 c5 c6; rintro e w_3 ⟨rfl, hi, hb, hk⟩; have HI3 := Aside0.mk hi; have HB3 := Aside0.mk hb; have HK3 := Aside0.mk (HK2.out.trans hk (.inl rfl)); have HX3 := Aside0.mk (hk.blk HX2.out HNE.out (by simp)); have c0 := cellAt (i := 0) HX3.out rfl; have c1 := cellAt (i := 1) HX3.out rfl; have c2 := cellAt (i := 2) HX3.out rfl; have c3 := cellAt (i := 3) HX3.out rfl; have c4 := cellAt (i := 4) HX3.out rfl; have c5 := cellAt (i := 5) HX3.out rfl; have c6 := cellAt (i := 6) HX3.out rfl;  clear hi hb hk) | (go_at_call 22; (with_reducible refine (writer_num' (w7.heap.size + 1 + 1) ([] ++ Pure.putL 1 1 ++ Pure.putL a0 8) (IntKind.u64.wrap a1) 4 4 rfl w _ HI3.out HB3.out (by (try simp only [List.length_append, Pure.putL_length, List.length_nil]); omega)).mono ?_); clear c0 c1 c2 c3 c4 c5 c6; rintro e w_4 ⟨rfl, hi, hb, hk⟩; rw [HWR.out] at hi; have HI4 := Aside0.mk hi; have HB4 := Aside0.mk hb; have HK4 := Aside0.mk (HK3.out.trans hk (.inl rfl)); have HX4 := Aside0.mk (hk.blk HX3.out HNE.out (by simp)); have c0 := cellAt (i := 0) HX4.out rfl; have c1 := cellAt (i := 1) HX4.out rfl; have c2 := cellAt (i := 2) HX4.out rfl; have c3 := cellAt (i := 3) HX4.out rfl; have c4 := cellAt (i := 4) HX4.out rfl; have c5 := cellAt (i := 5) HX4.out rfl; have c6 := cellAt (i := 6) HX4.out rfl;  clear hi hb hk) | (go_at_call 23; (with_reducible refine (writer_record_bad2 (w7.heap.size + 1 + 1) ([] ++ Pure.putL 1 1 ++ Pure.putL a0 8 ++ Pure.putL a1 4) n ep rep mem A c l w _ HI4.out HB4.out (by (try simp only [List.length_append, Pure.putL_length, List.length_nil]); omega) (fun W' hk' => C27_keep HC.out HB4.out hk' (by have := HB7.out.size; omega)) HCD.out.1.1 HCD.out.1.2 HCD.out.2.1 HCD.out.2.2).mono ?_); clear c0 c1 c2 c3 c4 c5 c6; rintro e w9 ⟨rfl, hb, hk⟩; have HRE := Aside0.mk (HRS.out.keep (HK4.out.trans hk (.inl rfl)) (by omega) hb); clear hb hk))
  refine leaves_cons (f := 20) (args := #[.pointer (some ⟨w7.heap.size, 0, none⟩), .pointer (some ⟨w7.heap.size + 1, 0, none⟩)]) (by simp) (by simp [go_sem]) ?_
  refine (print_catch w7.heap.size (w7.heap.size + 1) ⟨#[]⟩ 0 1 (by decide) w9 HRE.out.b0 HRE.out.b1).mono ?_
  rintro e u' w'' ⟨rfl, rfl, rfl⟩
  obtain ⟨W8, h8, c1, c2, hb⟩ := HRE.out.end_ ⟨#[]⟩ 1
  rw [← h8]
  clear h8
  simp [Leaves, settle, results, Try.results7, go_sem, c1, c2]
  exact hb
/-- Print's answer. -/
def logPrint (a0 a1 n ep rep mem : Int) (l : List S27) : ByteArray × Int :=
  if rep < 0 ∨ 64 ≤ rep then (⟨#[]⟩, 1) else if 32 < l.length then (⟨#[]⟩, 3) else if ∀ x ∈ l, sOk x then (strOfNums ([] ++ Pure.putL 1 1 ++ Pure.putL a0 8 ++ Pure.putL a1 4 ++ recB n ep rep mem l), 0) else (⟨#[]⟩, 1)
def log_Print.f (a0_0 a0_1 a0_2 a0_3 a0_4 a0_5 : Int) (l0_6 : List S27) : Option (ByteArray × Int) := if 0 ≤ a0_1 ∧ a0_1 ≤ 4294967295 then some (logPrint a0_0 a0_1 a0_2 a0_3 a0_4 a0_5 l0_6) else none
theorem log_Print.calls (a0_0 a0_1 a0_2 a0_3 a0_4 a0_5 : Int) (A0_6 : Option Addr) (c0_6 : Nat) (l0_6 : List S27) (r1 : ByteArray) (r2 : Int) (w : World) (hr0_6 : Kd.C k27 w A0_6 l0_6.length l0_6) (hc0_6 : l0_6.length ≤ c0_6) (h : log_Print.f a0_0 a0_1 a0_2 a0_3 a0_4 a0_5 l0_6 = some (r1, r2)) :
    Calls Try.prog 7 #[.agg #[.int .u64 a0_0, .int .u32 a0_1, .int .u64 a0_2, .int .u64 a0_3, .int .i64 a0_4, .int .u64 a0_5, .slice A0_6 l0_6.length c0_6]] w fun e w' => e = .returned (.tuple #[.string r1, .int .i64 r2]) ∧ Below w.heap.size w w' := by
  unfold log_Print.f at h
  by_cases h5 : 0 ≤ a0_1 ∧ a0_1 ≤ 4294967295
  rotate_left
  · rw [if_neg h5] at h
    cases h
  rw [if_pos h5, logPrint] at h
  by_cases hb : a0_4 < 0 ∨ 64 ≤ a0_4
  · rw [if_pos hb] at h
    simp only [Option.some.injEq, Prod.mk.injEq] at h
    obtain ⟨rfl, rfl⟩ := h
    exact log_Print_bad1 _ _ _ _ _ _ _ _ _ w hr0_6 h5 hb
  rw [if_neg hb] at h
  by_cases h2 : 32 < l0_6.length
  · rw [if_pos h2] at h
    simp only [Option.some.injEq, Prod.mk.injEq] at h
    obtain ⟨rfl, rfl⟩ := h
    exact log_Print_bad3 _ _ _ _ _ _ _ _ _ w hr0_6 h5 (by omega) h2
  rw [if_neg h2] at h
  by_cases h3 : ∀ x ∈ l0_6, sOk x
  · rw [if_pos h3] at h
    simp only [Option.some.injEq, Prod.mk.injEq] at h
    obtain ⟨rfl, rfl⟩ := h
    exact log_Print_good _ _ _ _ _ _ _ _ _ w hr0_6 h5 (by omega) (by omega) h3
  · rw [if_neg h3] at h
    simp only [Option.some.injEq, Prod.mk.injEq] at h
    obtain ⟨rfl, rfl⟩ := h
    exact log_Print_bad2 _ _ _ _ _ _ _ _ _ w hr0_6 h5 (by omega) (by omega) (by
      apply Classical.byContradiction
      intro hn
      exact h3 fun x hx => Classical.byContradiction fun hx2 => hn ⟨x, hx, hx2⟩)
end Go.Proofs.Ytlkemknhmfjdpaa.P
