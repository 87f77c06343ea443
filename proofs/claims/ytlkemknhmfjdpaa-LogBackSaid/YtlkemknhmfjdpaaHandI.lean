import Derived.Test.YtlkemknhmfjdpaaHandP
import Derived.Deep.RegionLaw
import Derived.RegionTactic
import Derived.BigRegion
/- PrintItem's contract, by hand. -/
namespace Go.Proofs.Ytlkemknhmfjdpaa.P
open Go.RowKit Go.Proofs.YtlkemknhmfjdpaaW.PrintWords Go.Proofs.YtlkemknhmfjdpaaW.PrintLast Go.Proofs.YtlkemknhmfjdpaaW.PrintMore
attribute [local go_sem] max2_int min2_int max_two min_two max_three min_three max_four min_four
set_option linter.unusedVariables false
set_option linter.unusedSimpArgs false

/-! ### The load of a struct of many cells -/
theorem load_cells {P : Program} {W : World} {p : Addr} : ∀ (cs : List Value) (i : Nat) (acc : Array Value), (∀ j u, cs[j]? = some u → W.cell? (p.add (i + j)) = some u) → (loadCellsFrom p i cs.length acc).run P W = .ok (acc ++ cs.toArray) W
  | [], i, acc, _ => by
    simp [loadCellsFrom]
  | v :: r, i, acc, h => by
    have h0 := h 0 v rfl
    simp only [Nat.add_zero] at h0
    have ih := load_cells (P := P) r (i + 1) (acc.push v) (fun j u hj => by have := h (j + 1) u (by simpa using hj); rwa [show i + 1 + j = i + (j + 1) by omega])
    simp only [List.length_cons, loadCellsFrom]
    go_simp
theorem load_agg {P : Program} {W : World} {p : Addr} {t : TypeId} (cs : List Value) (hg : (isAgg t).run P W = .ok true W) (hs : (sizeOf t).run P W = .ok cs.length W) (h : ∀ j u, cs[j]? = some u → W.cell? (p.add j) = some u) :
    (Instr.loadAt t (.pointer (some p))).run P W = .ok (.agg cs.toArray) W := by
  have := load_cells (P := P) (W := W) (p := p) cs 0 #[] (fun j u hj => by rw [Nat.zero_add]; exact h j u hj)
  simp only [Instr.loadAt, Instr.sureAddr, loadVar, loadCells]
  go_simp
section
variable {P : Program} {ops : Array Oper} {o : Oper} {rest : List Oper} {a : Act} {Q : Exit → Act → World → Prop}
theorem load_event {W : World} (hgd : o.guard = none) (x : Operand) (t : TypeId) (ho : o.op = .load t x) {p : Addr} (hx : a.eval x = .pointer (some p)) {v : Value}
    (hv : (Instr.loadAt t (.pointer (some p))).run P W = .ok v W) (h : wpList P ops Q rest (a.put o.dst v) W) : wpList P ops Q (o :: rest) a W := by
  refine Kd.event_run hgd ?_ h
  simp only [execOp, ho, hx]
  generalize Instr.loadAt t (.pointer (some p)) = m at *
  go_simp
end
theorem load34 {W : World} {b : Nat} {v0 v1 v2 v3 v4 v5 v6 v7 v8 v9 v10 v11 v12 v13 v14 v15 v16 v17 : Value} (h : W.heap[b]? = some (.cells #[v0, v1, v2, v3, v4, v5, v6, v7, v8, v9, v10, v11, v12, v13, v14, v15, v16, v17] 34 (0, 0))) :
    (Instr.loadAt 34 (.pointer (some ⟨b, 0, none⟩))).run Try.prog W = .ok (.agg #[v0, v1, v2, v3, v4, v5, v6, v7, v8, v9, v10, v11, v12, v13, v14, v15, v16, v17]) W := by
  refine load_agg [v0, v1, v2, v3, v4, v5, v6, v7, v8, v9, v10, v11, v12, v13, v14, v15, v16, v17] (by kernel_rfl) (by kernel_rfl) (fun j u hj => ?_)
  rw [add_plain]
  refine cellAt h ?_
  simpa using hj
def flagsN (has dir : Bool) : Int := (if has = true then 1 else 0) + (if dir = true then 2 else 0)
theorem flags_is (a0 : Int) (a1 : ByteArray) (a2 a3 : Int) (has dir : Bool) (a6 a7 a8 a9 : Int) (l : List S27) (a11 a12 a13 a14 a15 a16 a17 : Int) : log_flags.f a0 a1 a2 a3 has dir a6 a7 a8 a9 l a11 a12 a13 a14 a15 a16 a17 = some (flagsN has dir) := by
  cases has <;> cases dir <;> rfl
set_option maxHeartbeats 8000000 in
set_option maxRecDepth 100000 in
theorem item3_good (d : ByteArray) (inc holds : Int) (has dir : Bool) (rn re rr rm : Int) (A : Option Addr) (c : Nat) (l : List S27) (vn ve vr vm nb ix tt : Int) (w : World) (h0 : 0 ≤ vr ∧ vr < 64) :
    Calls Try.prog 11 #[.agg #[.int .i64 3, .string d, .int .u32 inc, .int .u64 holds, .bool has, .bool dir, .int .u64 rn, .int .u64 re, .int .i64 rr, .int .u64 rm, .slice A l.length c, .int .u64 vn, .int .u64 ve, .int .i64 vr, .int .u64 vm, .int .u64 nb, .int .i64 ix, .int .i64 tt]] w fun e w' => e = .returned (.tuple #[.string (strOfNums (([] ++ Pure.putL 3 1) ++ vB vn ve vr vm)), .int .i64 0]) ∧ Below w.heap.size w w' := by
  have HV := Aside0.mk h0
  clear h0
  have hmf : ∀ (fn : Fn) (first cap : Array Value) (w : World), (Instr.makeFunc fn first cap).run Try.prog w = .ok (.func fn first cap) w := fun _ _ _ _ => rfl
  go_enter_defers Try.func11, Try.ntmps11
  go_wp2_with (first | ((with_reducible refine gate_dst (N := 1) rfl ?_); refine box_event ?hg (N := 1) ?hd (cs := #[.int .i64 3, .string d, .int .u32 inc, .int .u64 holds, .bool has, .bool dir, .int .u64 rn, .int .u64 re, .int .i64 rr, .int .u64 rm, .slice A l.length c, .int .u64 vn, .int .u64 ve, .int .i64 vr, .int .u64 vm, .int .u64 nb, .int .i64 ix, .int .i64 tt]) (t := 34) ?hr ?_; (case hd => rfl); (case hg => rfl); (case hr => first | (go_simp; done) | (go_simp; rfl)); intro gb hg w7 hbox hb; have HB7 := Aside0.mk hb; have HX7 := Aside0.mk hbox; have HGB := Aside0.mk hg; clear hbox hb hg; have HB1 := Aside0.mk (show Below w.heap.size w (prW w7) from below_alloc (below_alloc (below_alloc HB7.out _) _) _); have HK1 := Aside0.mk (KeepBut.refl (prW w7) (w7.heap.size + 1 + 1) none); have HX1 := Aside0.mk (show (prW w7).heap[gb]? = _ from heap_old (heap_old (heap_old HX7.out _) _) _); have HNE := Aside0.mk (show gb ≠ w7.heap.size + 1 + 1 by have := blk_lt HX7.out; omega); have HRS := Aside0.mk (show Res w (prW w7) w7.heap.size from ⟨heap_old resW_b0 _, heap_old resW_b1 _, HB7.out.size, HB1.out⟩); have HI1 := Aside0.mk (newW (w := w) (w8 := prW w7) (g := w7.heap.size + 1 + 1) (by have := HB7.out.size; omega) (by have := heap_alloc_new (resW w7) (.cells #[.slice none 0 0] 67); rwa [resW_size] at this)); have c0 := cellAt (i := 0) HX1.out rfl; have c11 := cellAt (i := 11) HX1.out rfl; have c12 := cellAt (i := 12) HX1.out rfl; have c13 := cellAt (i := 13) HX1.out rfl; have c14 := cellAt (i := 14) HX1.out rfl; ) | (go_at_call 26; (with_reducible refine (bad_no _ _).mono ?_); rintro e w_ ⟨rfl, rfl⟩) | (go_at_call 22; (with_reducible refine (writer_num' (w7.heap.size + 1 + 1) [] 3 1 1 rfl w _ HI1.out HB1.out (by (try simp only [List.length_append, Pure.putL_length, List.length_nil]); omega)).mono ?_); clear c0 c11 c12 c13 c14; rintro e w_2 ⟨rfl, hi, hb, hk⟩; have HI2 := Aside0.mk hi; have HB2 := Aside0.mk hb; have HK2 := Aside0.mk (HK1.out.trans hk (.inl rfl)); have HX2 := Aside0.mk (hk.blk HX1.out HNE.out (by simp)); have c0 := cellAt (i := 0) HX2.out rfl; have c11 := cellAt (i := 11) HX2.out rfl; have c12 := cellAt (i := 12) HX2.out rfl; have c13 := cellAt (i := 13) HX2.out rfl; have c14 := cellAt (i := 14) HX2.out rfl;  clear hi hb hk) | (go_at_call 32; (with_reducible refine (writer_view_good (w7.heap.size + 1 + 1) ([] ++ Pure.putL 3 1) vn ve vr vm w _ HI2.out HB2.out (by (try simp only [List.length_append, Pure.putL_length, List.length_nil]); omega) HV.out.1 HV.out.2).mono ?_); clear c0 c11 c12 c13 c14; rintro e w9 ⟨rfl, hi, hb, hk⟩; have HRE := Aside0.mk (HRS.out.keep (HK2.out.trans hk (.inl rfl)) (by omega) hb); obtain ⟨YS, hYS⟩ : ∃ Y, Y = ([] ++ Pure.putL 3 1) ++ vB vn ve vr vm := ⟨_, rfl⟩; rw [← hYS] at hi; have HYS := Aside0.mk hYS; have b20 : decide ((1024 : Int) < (YS.length : Int)) = false := decide_eq_false (by rw [hYS]; simp only [List.length_append, Pure.putL_length, vB_length, List.length_nil]; omega); have c0 := cellAt (i := 0) (hk.blk HX2.out HNE.out (by simp)) rfl; clear hYS; obtain ⟨v9, hv, hge, hr⟩ := hi; obtain ⟨A9, k9, rfl⟩ := Kd.R_slice hr; have cw := cellAt (i := 0) hv rfl; have hcv := own_string (P := Try.prog) Try.underlying65 Try.underlying5 Try.underlying9 (Kd.own_of_R hr); obtain ⟨S, hS⟩ : ∃ S, S = strOfNums YS := ⟨_, rfl⟩; rw [← hS] at hcv; have HS := Aside0.mk hS; obtain ⟨⟨r0, f0⟩, ⟨r1, f1⟩⟩ := HRE.out.cells S; clear hb hk hS hv hge hr))
  clear r0 r1 f0 f1 hcv cw
  refine leaves_cons (f := 30) (args := #[.pointer (some ⟨w7.heap.size, 0, none⟩), .pointer (some ⟨w7.heap.size + 1, 0, none⟩)]) (by simp) (by simp [go_sem]) ?_
  refine (printItem_idle w7.heap.size (w7.heap.size + 1) _).mono ?_
  rintro e u' w'' ⟨rfl, rfl, rfl⟩
  obtain ⟨W8, h8, c1, c2, hb⟩ := HRE.out.end_ S 0
  rw [← h8]
  clear h8
  simp [Leaves, settle, results, Try.results11, go_sem, c1, c2]
  exact ⟨by rw [HS.out, HYS.out]; rfl, hb⟩
set_option maxHeartbeats 8000000 in
set_option maxRecDepth 100000 in
theorem item3_bad (d : ByteArray) (inc holds : Int) (has dir : Bool) (rn re rr rm : Int) (A : Option Addr) (c : Nat) (l : List S27) (vn ve vr vm nb ix tt : Int) (w : World) (h0 : vr < 0 ∨ 64 ≤ vr) :
    Calls Try.prog 11 #[.agg #[.int .i64 3, .string d, .int .u32 inc, .int .u64 holds, .bool has, .bool dir, .int .u64 rn, .int .u64 re, .int .i64 rr, .int .u64 rm, .slice A l.length c, .int .u64 vn, .int .u64 ve, .int .i64 vr, .int .u64 vm, .int .u64 nb, .int .i64 ix, .int .i64 tt]] w fun e w' => e = .returned (.tuple #[.string ⟨#[]⟩, .int .i64 1]) ∧ Below w.heap.size w w' := by
  have HV := Aside0.mk h0
  clear h0
  have hmf : ∀ (fn : Fn) (first cap : Array Value) (w : World), (Instr.makeFunc fn first cap).run Try.prog w = .ok (.func fn first cap) w := fun _ _ _ _ => rfl
  go_enter_defers Try.func11, Try.ntmps11
  go_wp2_with (first | ((with_reducible refine gate_dst (N := 1) rfl ?_); refine box_event ?hg (N := 1) ?hd (cs := #[.int .i64 3, .string d, .int .u32 inc, .int .u64 holds, .bool has, .bool dir, .int .u64 rn, .int .u64 re, .int .i64 rr, .int .u64 rm, .slice A l.length c, .int .u64 vn, .int .u64 ve, .int .i64 vr, .int .u64 vm, .int .u64 nb, .int .i64 ix, .int .i64 tt]) (t := 34) ?hr ?_; (case hd => rfl); (case hg => rfl); (case hr => first | (go_simp; done) | (go_simp; rfl)); intro gb hg w7 hbox hb; have HB7 := Aside0.mk hb; have HX7 := Aside0.mk hbox; have HGB := Aside0.mk hg; clear hbox hb hg; have HB1 := Aside0.mk (show Below w.heap.size w (prW w7) from below_alloc (below_alloc (below_alloc HB7.out _) _) _); have HK1 := Aside0.mk (KeepBut.refl (prW w7) (w7.heap.size + 1 + 1) none); have HX1 := Aside0.mk (show (prW w7).heap[gb]? = _ from heap_old (heap_old (heap_old HX7.out _) _) _); have HNE := Aside0.mk (show gb ≠ w7.heap.size + 1 + 1 by have := blk_lt HX7.out; omega); have HRS := Aside0.mk (show Res w (prW w7) w7.heap.size from ⟨heap_old resW_b0 _, heap_old resW_b1 _, HB7.out.size, HB1.out⟩); have HI1 := Aside0.mk (newW (w := w) (w8 := prW w7) (g := w7.heap.size + 1 + 1) (by have := HB7.out.size; omega) (by have := heap_alloc_new (resW w7) (.cells #[.slice none 0 0] 67); rwa [resW_size] at this)); have c0 := cellAt (i := 0) HX1.out rfl; have c11 := cellAt (i := 11) HX1.out rfl; have c12 := cellAt (i := 12) HX1.out rfl; have c13 := cellAt (i := 13) HX1.out rfl; have c14 := cellAt (i := 14) HX1.out rfl; ) | (go_at_call 26; (with_reducible refine (bad_no _ _).mono ?_); rintro e w_ ⟨rfl, rfl⟩) | (go_at_call 22; (with_reducible refine (writer_num' (w7.heap.size + 1 + 1) [] 3 1 1 rfl w _ HI1.out HB1.out (by (try simp only [List.length_append, Pure.putL_length, List.length_nil]); omega)).mono ?_); clear c0 c11 c12 c13 c14; rintro e w_2 ⟨rfl, hi, hb, hk⟩; have HI2 := Aside0.mk hi; have HB2 := Aside0.mk hb; have HK2 := Aside0.mk (HK1.out.trans hk (.inl rfl)); have HX2 := Aside0.mk (hk.blk HX1.out HNE.out (by simp)); have c0 := cellAt (i := 0) HX2.out rfl; have c11 := cellAt (i := 11) HX2.out rfl; have c12 := cellAt (i := 12) HX2.out rfl; have c13 := cellAt (i := 13) HX2.out rfl; have c14 := cellAt (i := 14) HX2.out rfl;  clear hi hb hk) | (go_at_call 32; (with_reducible refine (writer_view_bad (w7.heap.size + 1 + 1) ([] ++ Pure.putL 3 1) vn ve vr vm w _ HI2.out HB2.out HV.out).mono ?_); clear c0 c11 c12 c13 c14; rintro e w9 ⟨rfl, hb, hk⟩; have HRE := Aside0.mk (HRS.out.keep (HK2.out.trans hk (.inl rfl)) (by omega) hb); clear hb hk))
  refine leaves_cons (f := 30) (args := #[.pointer (some ⟨w7.heap.size, 0, none⟩), .pointer (some ⟨w7.heap.size + 1, 0, none⟩)]) (by simp) (by simp [go_sem]) ?_
  refine (printItem_catch w7.heap.size (w7.heap.size + 1) ⟨#[]⟩ 0 1 (by decide) w9 HRE.out.b0 HRE.out.b1).mono ?_
  rintro e u' w'' ⟨rfl, rfl, rfl⟩
  obtain ⟨W8, h8, c1, c2, hb⟩ := HRE.out.end_ ⟨#[]⟩ 1
  rw [← h8]
  clear h8
  simp [Leaves, settle, results, Try.results11, go_sem, c1, c2]
  exact hb
set_option maxHeartbeats 8000000 in
set_option maxRecDepth 100000 in
theorem item0_lo (k : Int) (d : ByteArray) (inc holds : Int) (has dir : Bool) (rn re rr rm : Int) (A : Option Addr) (c : Nat) (l : List S27) (vn ve vr vm nb ix tt : Int) (w : World) (h0 : k < 1) :
    Calls Try.prog 11 #[.agg #[.int .i64 k, .string d, .int .u32 inc, .int .u64 holds, .bool has, .bool dir, .int .u64 rn, .int .u64 re, .int .i64 rr, .int .u64 rm, .slice A l.length c, .int .u64 vn, .int .u64 ve, .int .i64 vr, .int .u64 vm, .int .u64 nb, .int .i64 ix, .int .i64 tt]] w fun e w' => e = .returned (.tuple #[.string ⟨#[]⟩, .int .i64 10]) ∧ Below w.heap.size w w' := by
  have b0 : decide (k < 1) = true := decide_eq_true h0
  clear h0
  have hmf : ∀ (fn : Fn) (first cap : Array Value) (w : World), (Instr.makeFunc fn first cap).run Try.prog w = .ok (.func fn first cap) w := fun _ _ _ _ => rfl
  go_enter_defers Try.func11, Try.ntmps11
  go_wp2_with (first | ((with_reducible refine gate_dst (N := 1) rfl ?_); refine box_event ?hg (N := 1) ?hd (cs := #[.int .i64 k, .string d, .int .u32 inc, .int .u64 holds, .bool has, .bool dir, .int .u64 rn, .int .u64 re, .int .i64 rr, .int .u64 rm, .slice A l.length c, .int .u64 vn, .int .u64 ve, .int .i64 vr, .int .u64 vm, .int .u64 nb, .int .i64 ix, .int .i64 tt]) (t := 34) ?hr ?_; (case hd => rfl); (case hg => rfl); (case hr => first | (go_simp; done) | (go_simp; rfl)); intro gb hg w7 hbox hb; have HB7 := Aside0.mk hb; have HX7 := Aside0.mk hbox; have HGB := Aside0.mk hg; clear hbox hb hg; have HB1 := Aside0.mk (show Below w.heap.size w (prW w7) from below_alloc (below_alloc (below_alloc HB7.out _) _) _); have HK1 := Aside0.mk (KeepBut.refl (prW w7) (w7.heap.size + 1 + 1) none); have HX1 := Aside0.mk (show (prW w7).heap[gb]? = _ from heap_old (heap_old (heap_old HX7.out _) _) _); have HNE := Aside0.mk (show gb ≠ w7.heap.size + 1 + 1 by have := blk_lt HX7.out; omega); have HRS := Aside0.mk (show Res w (prW w7) w7.heap.size from ⟨heap_old resW_b0 _, heap_old resW_b1 _, HB7.out.size, HB1.out⟩); have HI1 := Aside0.mk (newW (w := w) (w8 := prW w7) (g := w7.heap.size + 1 + 1) (by have := HB7.out.size; omega) (by have := heap_alloc_new (resW w7) (.cells #[.slice none 0 0] 67); rwa [resW_size] at this)); have c0 := cellAt (i := 0) HX1.out rfl; ) | (go_at_call 26; (with_reducible refine (bad_yes 10 _).mono ?_); rintro e w_ ⟨rfl, rfl⟩))
  clear c0
  refine leaves_cons (f := 30) (args := #[.pointer (some ⟨w7.heap.size, 0, none⟩), .pointer (some ⟨w7.heap.size + 1, 0, none⟩)]) (by simp) (by simp [go_sem]) ?_
  refine (printItem_catch w7.heap.size (w7.heap.size + 1) ⟨#[]⟩ 0 10 (by decide) _ HRS.out.b0 HRS.out.b1).mono ?_
  rintro e u' w'' ⟨rfl, rfl, rfl⟩
  obtain ⟨W8, h8, c1, c2, hb⟩ := HRS.out.end_ ⟨#[]⟩ 10
  rw [← h8]
  clear h8
  simp [Leaves, settle, results, Try.results11, go_sem, c1, c2]
  exact hb
set_option maxHeartbeats 8000000 in
set_option maxRecDepth 100000 in
theorem item0_hi (k : Int) (d : ByteArray) (inc holds : Int) (has dir : Bool) (rn re rr rm : Int) (A : Option Addr) (c : Nat) (l : List S27) (vn ve vr vm nb ix tt : Int) (w : World) (h0 : 4 < k) :
    Calls Try.prog 11 #[.agg #[.int .i64 k, .string d, .int .u32 inc, .int .u64 holds, .bool has, .bool dir, .int .u64 rn, .int .u64 re, .int .i64 rr, .int .u64 rm, .slice A l.length c, .int .u64 vn, .int .u64 ve, .int .i64 vr, .int .u64 vm, .int .u64 nb, .int .i64 ix, .int .i64 tt]] w fun e w' => e = .returned (.tuple #[.string ⟨#[]⟩, .int .i64 10]) ∧ Below w.heap.size w w' := by
  have b0 : decide (k < 1) = false := decide_eq_false (by omega)
  have b1 : decide (4 < k) = true := decide_eq_true h0
  clear h0
  have hmf : ∀ (fn : Fn) (first cap : Array Value) (w : World), (Instr.makeFunc fn first cap).run Try.prog w = .ok (.func fn first cap) w := fun _ _ _ _ => rfl
  go_enter_defers Try.func11, Try.ntmps11
  go_wp2_with (first | ((with_reducible refine gate_dst (N := 1) rfl ?_); refine box_event ?hg (N := 1) ?hd (cs := #[.int .i64 k, .string d, .int .u32 inc, .int .u64 holds, .bool has, .bool dir, .int .u64 rn, .int .u64 re, .int .i64 rr, .int .u64 rm, .slice A l.length c, .int .u64 vn, .int .u64 ve, .int .i64 vr, .int .u64 vm, .int .u64 nb, .int .i64 ix, .int .i64 tt]) (t := 34) ?hr ?_; (case hd => rfl); (case hg => rfl); (case hr => first | (go_simp; done) | (go_simp; rfl)); intro gb hg w7 hbox hb; have HB7 := Aside0.mk hb; have HX7 := Aside0.mk hbox; have HGB := Aside0.mk hg; clear hbox hb hg; have HB1 := Aside0.mk (show Below w.heap.size w (prW w7) from below_alloc (below_alloc (below_alloc HB7.out _) _) _); have HK1 := Aside0.mk (KeepBut.refl (prW w7) (w7.heap.size + 1 + 1) none); have HX1 := Aside0.mk (show (prW w7).heap[gb]? = _ from heap_old (heap_old (heap_old HX7.out _) _) _); have HNE := Aside0.mk (show gb ≠ w7.heap.size + 1 + 1 by have := blk_lt HX7.out; omega); have HRS := Aside0.mk (show Res w (prW w7) w7.heap.size from ⟨heap_old resW_b0 _, heap_old resW_b1 _, HB7.out.size, HB1.out⟩); have HI1 := Aside0.mk (newW (w := w) (w8 := prW w7) (g := w7.heap.size + 1 + 1) (by have := HB7.out.size; omega) (by have := heap_alloc_new (resW w7) (.cells #[.slice none 0 0] 67); rwa [resW_size] at this)); have c0 := cellAt (i := 0) HX1.out rfl; ) | (go_at_call 26; (with_reducible refine (bad_yes 10 _).mono ?_); rintro e w_ ⟨rfl, rfl⟩))
  clear c0
  refine leaves_cons (f := 30) (args := #[.pointer (some ⟨w7.heap.size, 0, none⟩), .pointer (some ⟨w7.heap.size + 1, 0, none⟩)]) (by simp) (by simp [go_sem]) ?_
  refine (printItem_catch w7.heap.size (w7.heap.size + 1) ⟨#[]⟩ 0 10 (by decide) _ HRS.out.b0 HRS.out.b1).mono ?_
  rintro e u' w'' ⟨rfl, rfl, rfl⟩
  obtain ⟨W8, h8, c1, c2, hb⟩ := HRS.out.end_ ⟨#[]⟩ 10
  rw [← h8]
  clear h8
  simp [Leaves, settle, results, Try.results11, go_sem, c1, c2]
  exact hb
set_option maxHeartbeats 8000000 in
set_option maxRecDepth 100000 in
theorem item2_good (d : ByteArray) (inc holds : Int) (has dir : Bool) (rn re rr rm : Int) (A : Option Addr) (c : Nat) (l : List S27) (vn ve vr vm nb ix tt : Int) (w : World) (hC : Kd.C k27 w A l.length l) (hcc : l.length ≤ c) (h5 : 0 ≤ inc ∧ inc ≤ 4294967295) (h0 : 0 ≤ rr ∧ rr < 64) (h2 : l.length ≤ 32) (h3 : ∀ x ∈ l, sOk x) :
    Calls Try.prog 11 #[.agg #[.int .i64 2, .string d, .int .u32 inc, .int .u64 holds, .bool has, .bool dir, .int .u64 rn, .int .u64 re, .int .i64 rr, .int .u64 rm, .slice A l.length c, .int .u64 vn, .int .u64 ve, .int .i64 vr, .int .u64 vm, .int .u64 nb, .int .i64 ix, .int .i64 tt]] w fun e w' => e = .returned (.tuple #[.string (strOfNums (([] ++ Pure.putL 2 1 ++ Pure.putL inc 4 ++ Pure.putL holds 8 ++ Pure.putL (flagsN has dir) 1) ++ recB rn re rr rm l)), .int .i64 0]) ∧ Below w.heap.size w w' := by
  have HWR := Aside0.mk (show IntKind.u64.wrap inc = inc by simp [IntKind.wrap, IntKind.bits, IntKind.signed]; omega)
  have HC := Aside0.mk hC
  clear hC h5
  have HCC := Aside0.mk hcc
  clear hcc
  have HCD := Aside0.mk (show (0 ≤ rr ∧ rr < 64) ∧ l.length ≤ 32 ∧ ∀ x ∈ l, sOk x from ⟨h0, h2, h3⟩)
  clear h0 h2 h3
  have hmf : ∀ (fn : Fn) (first cap : Array Value) (w : World), (Instr.makeFunc fn first cap).run Try.prog w = .ok (.func fn first cap) w := fun _ _ _ _ => rfl
  go_enter_defers Try.func11, Try.ntmps11
  go_wp2_with (first | ((with_reducible refine gate_dst (N := 1) rfl ?_); refine box_event ?hg (N := 1) ?hd (cs := #[.int .i64 2, .string d, .int .u32 inc, .int .u64 holds, .bool has, .bool dir, .int .u64 rn, .int .u64 re, .int .i64 rr, .int .u64 rm, .slice A l.length c, .int .u64 vn, .int .u64 ve, .int .i64 vr, .int .u64 vm, .int .u64 nb, .int .i64 ix, .int .i64 tt]) (t := 34) ?hr ?_; (case hd => rfl); (case hg => rfl); (case hr => first | (go_simp; done) | (go_simp; rfl)); intro gb hg w7 hbox hb; have HB7 := Aside0.mk hb; have HX7 := Aside0.mk hbox; have HGB := Aside0.mk hg; clear hbox hb hg; have HB1 := Aside0.mk (show Below w.heap.size w (prW w7) from below_alloc (below_alloc (below_alloc HB7.out _) _) _); have HK1 := Aside0.mk (KeepBut.refl (prW w7) (w7.heap.size + 1 + 1) none); have HX1 := Aside0.mk (show (prW w7).heap[gb]? = _ from heap_old (heap_old (heap_old HX7.out _) _) _); have HNE := Aside0.mk (show gb ≠ w7.heap.size + 1 + 1 by have := blk_lt HX7.out; omega); have HRS := Aside0.mk (show Res w (prW w7) w7.heap.size from ⟨heap_old resW_b0 _, heap_old resW_b1 _, HB7.out.size, HB1.out⟩); have HI1 := Aside0.mk (newW (w := w) (w8 := prW w7) (g := w7.heap.size + 1 + 1) (by have := HB7.out.size; omega) (by have := heap_alloc_new (resW w7) (.cells #[.slice none 0 0] 67); rwa [resW_size] at this)); have c0 := cellAt (i := 0) HX1.out rfl; have c2 := cellAt (i := 2) HX1.out rfl; have c3 := cellAt (i := 3) HX1.out rfl; have c6 := cellAt (i := 6) HX1.out rfl; have c7 := cellAt (i := 7) HX1.out rfl; have c8 := cellAt (i := 8) HX1.out rfl; have c9 := cellAt (i := 9) HX1.out rfl; have c10 := cellAt (i := 10) HX1.out rfl; ) | (go_at_call 26; (with_reducible refine (bad_no _ _).mono ?_); rintro e w_ ⟨rfl, rfl⟩) | (go_at_call 22; (with_reducible refine (writer_num' (w7.heap.size + 1 + 1) [] 2 1 1 rfl w _ HI1.out HB1.out (by (try simp only [List.length_append, Pure.putL_length, List.length_nil]); omega)).mono ?_); clear c0 c2 c3 c6 c7 c8 c9 c10; rintro e w_2 ⟨rfl, hi, hb, hk⟩; have HI2 := Aside0.mk hi; have HB2 := Aside0.mk hb; have HK2 := Aside0.mk (HK1.out.trans hk (.inl rfl)); have HX2 := Aside0.mk (hk.blk HX1.out HNE.out (by simp)); have c0 := cellAt (i := 0) HX2.out rfl; have c2 := cellAt (i := 2) HX2.out rfl; have c3 := cellAt (i := 3) HX2.out rfl; have c6 := cellAt (i := 6) HX2.out rfl; have c7 := cellAt (i := 7) HX2.out rfl; have c8 := cellAt (i := 8) HX2.out rfl; have c9 := cellAt (i := 9) HX2.out rfl; have c10 := cellAt (i := 10) HX2.out rfl;  clear hi hb hk) | (go_at_call 22; (with_reducible refine (writer_num' (w7.heap.size + 1 + 1) ([] ++ Pure.putL 2 1) (IntKind.u64.wrap inc) 4 4 rfl w _ HI2.out HB2.out (by (try simp only [List.length_append, Pure.putL_length, List.length_nil]); omega)).mono ?_); clear c0 c2 c3 c6 c7 c8 c9 c10; rintro e w_3 ⟨rfl, hi, hb, hk⟩; rw [HWR.out] at hi; have HI3 := Aside0.mk hi; have HB3 := Aside0.mk hb; have HK3 := Aside0.mk (HK2.out.trans hk (.inl rfl)); have HX3 := Aside0.mk (hk.blk HX2.out HNE.out (by simp)); have c0 := cellAt (i := 0) HX3.out rfl; have c2 := cellAt (i := 2) HX3.out rfl; have c3 := cellAt (i := 3) HX3.out rfl; have c6 := cellAt (i := 6) HX3.out rfl; have c7 := cellAt (i := 7) HX3.out rfl; have c8 := cellAt (i := 8) HX3.out rfl; have c9 := cellAt (i := 9) HX3.out rfl; have c10 := cellAt (i := 10) HX3.out rfl;  clear hi hb hk) | (go_at_call 22; (with_reducible refine (writer_num' (w7.heap.size + 1 + 1) ([] ++ Pure.putL 2 1 ++ Pure.putL inc 4) holds 8 8 rfl w _ HI3.out HB3.out (by (try simp only [List.length_append, Pure.putL_length, List.length_nil]); omega)).mono ?_); clear c0 c2 c3 c6 c7 c8 c9 c10; rintro e w_4 ⟨rfl, hi, hb, hk⟩; have HI4 := Aside0.mk hi; have HB4 := Aside0.mk hb; have HK4 := Aside0.mk (HK3.out.trans hk (.inl rfl)); have HX4 := Aside0.mk (hk.blk HX3.out HNE.out (by simp)); have c0 := cellAt (i := 0) HX4.out rfl; have c2 := cellAt (i := 2) HX4.out rfl; have c3 := cellAt (i := 3) HX4.out rfl; have c6 := cellAt (i := 6) HX4.out rfl; have c7 := cellAt (i := 7) HX4.out rfl; have c8 := cellAt (i := 8) HX4.out rfl; have c9 := cellAt (i := 9) HX4.out rfl; have c10 := cellAt (i := 10) HX4.out rfl;  clear hi hb hk) | ((with_reducible refine gate_dst (N := 36) rfl ?_); refine load_event rfl (.tmp 1) 34 rfl rfl (load34 HX4.out) ?_) | (go_at_call 31; (with_reducible refine (log_flags.calls 2 d inc holds has dir rn re rr rm A c l vn ve vr vm nb ix tt (flagsN has dir) w_4 (C27_keep HC.out HB4.out (KeepBut.refl _ (w7.heap.size + 1 + 1) _) (by have := HB7.out.size; omega)) HCC.out (flags_is _ _ _ _ _ _ _ _ _ _ _ _ _ _ _ _ _ _)).mono ?_); clear c0 c2 c3 c6 c7 c8 c9 c10; rintro e w_5 ⟨rfl, hb⟩; have HI5 := Aside0.mk (HI4.out.below hb); have HB5 := Aside0.mk (below_step HB4.out hb); have HK5 := Aside0.mk (HK4.out.trans (KeepBut.of_below hb _ none) (.inl rfl)); have HX5 := Aside0.mk ((hb.block gb (blk_lt HX4.out)).trans HX4.out); have c0 := cellAt (i := 0) HX5.out rfl; have c2 := cellAt (i := 2) HX5.out rfl; have c3 := cellAt (i := 3) HX5.out rfl; have c6 := cellAt (i := 6) HX5.out rfl; have c7 := cellAt (i := 7) HX5.out rfl; have c8 := cellAt (i := 8) HX5.out rfl; have c9 := cellAt (i := 9) HX5.out rfl; have c10 := cellAt (i := 10) HX5.out rfl;  clear hb) | (go_at_call 22; (with_reducible refine (writer_num' (w7.heap.size + 1 + 1) ([] ++ Pure.putL 2 1 ++ Pure.putL inc 4 ++ Pure.putL holds 8) (flagsN has dir) 1 1 rfl w _ HI5.out HB5.out (by (try simp only [List.length_append, Pure.putL_length, List.length_nil]); omega)).mono ?_); clear c0 c2 c3 c6 c7 c8 c9 c10; rintro e w_6 ⟨rfl, hi, hb, hk⟩; have HI6 := Aside0.mk hi; have HB6 := Aside0.mk hb; have HK6 := Aside0.mk (HK5.out.trans hk (.inl rfl)); have HX6 := Aside0.mk (hk.blk HX5.out HNE.out (by simp)); have c0 := cellAt (i := 0) HX6.out rfl; have c2 := cellAt (i := 2) HX6.out rfl; have c3 := cellAt (i := 3) HX6.out rfl; have c6 := cellAt (i := 6) HX6.out rfl; have c7 := cellAt (i := 7) HX6.out rfl; have c8 := cellAt (i := 8) HX6.out rfl; have c9 := cellAt (i := 9) HX6.out rfl; have c10 := cellAt (i := 10) HX6.out rfl;  clear hi hb hk) | (go_at_call 23; (with_reducible refine (writer_record_good (w7.heap.size + 1 + 1) ([] ++ Pure.putL 2 1 ++ Pure.putL inc 4 ++ Pure.putL holds 8 ++ Pure.putL (flagsN has dir) 1) rn re rr rm A c l w _ HI6.out HB6.out (by (try simp only [List.length_append, Pure.putL_length, List.length_nil]); omega) (fun W' hk' => C27_keep HC.out HB6.out hk' (by have := HB7.out.size; omega)) HCD.out.1.1 HCD.out.1.2 HCD.out.2.1 HCD.out.2.2).mono ?_); clear c0 c2 c3 c6 c7 c8 c9 c10; rintro e w9 ⟨rfl, hi, hb, hk⟩; have HRE := Aside0.mk (HRS.out.keep (HK6.out.trans hk (.inl rfl)) (by omega) hb); obtain ⟨YS, hYS⟩ : ∃ Y, Y = ([] ++ Pure.putL 2 1 ++ Pure.putL inc 4 ++ Pure.putL holds 8 ++ Pure.putL (flagsN has dir) 1) ++ recB rn re rr rm l := ⟨_, rfl⟩; rw [← hYS] at hi; have HYS := Aside0.mk hYS; have b20 : decide ((1024 : Int) < (YS.length : Int)) = false := decide_eq_false (by have hq := HCD.out.2.1; rw [hYS]; simp only [recB, List.length_append, Pure.putL_length, vB_length, flatB_length, List.length_nil]; omega); have c0 := cellAt (i := 0) (hk.blk HX6.out HNE.out (by simp)) rfl; clear hYS; obtain ⟨v9, hv, hge, hr⟩ := hi; obtain ⟨A9, k9, rfl⟩ := Kd.R_slice hr; have cw := cellAt (i := 0) hv rfl; have hcv := own_string (P := Try.prog) Try.underlying65 Try.underlying5 Try.underlying9 (Kd.own_of_R hr); obtain ⟨S, hS⟩ : ∃ S, S = strOfNums YS := ⟨_, rfl⟩; rw [← hS] at hcv; have HS := Aside0.mk hS; obtain ⟨⟨r0, f0⟩, ⟨r1, f1⟩⟩ := HRE.out.cells S; clear hb hk hS hv hge hr))
  clear r0 r1 f0 f1 hcv cw
  refine leaves_cons (f := 30) (args := #[.pointer (some ⟨w7.heap.size, 0, none⟩), .pointer (some ⟨w7.heap.size + 1, 0, none⟩)]) (by simp) (by simp [go_sem]) ?_
  refine (printItem_idle w7.heap.size (w7.heap.size + 1) _).mono ?_
  rintro e u' w'' ⟨rfl, rfl, rfl⟩
  obtain ⟨W8, h8, c1, c2, hb⟩ := HRE.out.end_ S 0
  rw [← h8]
  clear h8
  simp [Leaves, settle, results, Try.results11, go_sem, c1, c2]
  exact ⟨by rw [HS.out, HYS.out]; rfl, hb⟩
set_option maxHeartbeats 8000000 in
set_option maxRecDepth 100000 in
theorem item2_bad1 (d : ByteArray) (inc holds : Int) (has dir : Bool) (rn re rr rm : Int) (A : Option Addr) (c : Nat) (l : List S27) (vn ve vr vm nb ix tt : Int) (w : World) (hC : Kd.C k27 w A l.length l) (hcc : l.length ≤ c) (h5 : 0 ≤ inc ∧ inc ≤ 4294967295) (hb : rr < 0 ∨ 64 ≤ rr) :
    Calls Try.prog 11 #[.agg #[.int .i64 2, .string d, .int .u32 inc, .int .u64 holds, .bool has, .bool dir, .int .u64 rn, .int .u64 re, .int .i64 rr, .int .u64 rm, .slice A l.length c, .int .u64 vn, .int .u64 ve, .int .i64 vr, .int .u64 vm, .int .u64 nb, .int .i64 ix, .int .i64 tt]] w fun e w' => e = .returned (.tuple #[.string ⟨#[]⟩, .int .i64 1]) ∧ Below w.heap.size w w' := by
  have HWR := Aside0.mk (show IntKind.u64.wrap inc = inc by simp [IntKind.wrap, IntKind.bits, IntKind.signed]; omega)
  have HC := Aside0.mk hC
  clear hC h5
  have HCC := Aside0.mk hcc
  clear hcc
  have HCD := Aside0.mk hb
  clear hb
  have hmf : ∀ (fn : Fn) (first cap : Array Value) (w : World), (Instr.makeFunc fn first cap).run Try.prog w = .ok (.func fn first cap) w := fun _ _ _ _ => rfl
  go_enter_defers Try.func11, Try.ntmps11
  go_wp2_with (first | ((with_reducible refine gate_dst (N := 1) rfl ?_); refine box_event ?hg (N := 1) ?hd (cs := #[.int .i64 2, .string d, .int .u32 inc, .int .u64 holds, .bool has, .bool dir, .int .u64 rn, .int .u64 re, .int .i64 rr, .int .u64 rm, .slice A l.length c, .int .u64 vn, .int .u64 ve, .int .i64 vr, .int .u64 vm, .int .u64 nb, .int .i64 ix, .int .i64 tt]) (t := 34) ?hr ?_; (case hd => rfl); (case hg => rfl); (case hr => first | (go_simp; done) | (go_simp; rfl)); intro gb hg w7 hbox hb; have HB7 := Aside0.mk hb; have HX7 := Aside0.mk hbox; have HGB := Aside0.mk hg; clear hbox hb hg; have HB1 := Aside0.mk (show Below w.heap.size w (prW w7) from below_alloc (below_alloc (below_alloc HB7.out _) _) _); have HK1 := Aside0.mk (KeepBut.refl (prW w7) (w7.heap.size + 1 + 1) none); have HX1 := Aside0.mk (show (prW w7).heap[gb]? = _ from heap_old (heap_old (heap_old HX7.out _) _) _); have HNE := Aside0.mk (show gb ≠ w7.heap.size + 1 + 1 by have := blk_lt HX7.out; omega); have HRS := Aside0.mk (show Res w (prW w7) w7.heap.size from ⟨heap_old resW_b0 _, heap_old resW_b1 _, HB7.out.size, HB1.out⟩); have HI1 := Aside0.mk (newW (w := w) (w8 := prW w7) (g := w7.heap.size + 1 + 1) (by have := HB7.out.size; omega) (by have := heap_alloc_new (resW w7) (.cells #[.slice none 0 0] 67); rwa [resW_size] at this)); have c0 := cellAt (i := 0) HX1.out rfl; have c2 := cellAt (i := 2) HX1.out rfl; have c3 := cellAt (i := 3) HX1.out rfl; have c6 := cellAt (i := 6) HX1.out rfl; have c7 := cellAt (i := 7) HX1.out rfl; have c8 := cellAt (i := 8) HX1.out rfl; have c9 := cellAt (i := 9) HX1.out rfl; have c10 := cellAt (i := 10) HX1.out rfl; ) | (go_at_call 26; (with_reducible refine (bad_no _ _).mono ?_); rintro e w_ ⟨rfl, rfl⟩) | (go_at_call 22; (with_reducible refine (writer_num' (w7.heap.size + 1 + 1) [] 2 1 1 rfl w _ HI1.out HB1.out (by (try simp only [List.length_append, Pure.putL_length, List.length_nil]); omega)).mono ?_); clear c0 c2 c3 c6 c7 c8 c9 c10; rintro e w_2 ⟨rfl, hi, hb, hk⟩; have HI2 := Aside0.mk hi; have HB2 := Aside0.mk hb; have HK2 := Aside0.mk (HK1.out.trans hk (.inl rfl)); have HX2 := Aside0.mk (hk.blk HX1.out HNE.out (by simp)); have c0 := cellAt (i := 0) HX2.out rfl; have c2 := cellAt (i := 2) HX2.out rfl; have c3 := cellAt (i := 3) HX2.out rfl; have c6 := cellAt (i := 6) HX2.out rfl; have c7 := cellAt (i := 7) HX2.out rfl; have c8 := cellAt (i := 8) HX2.out rfl; have c9 := cellAt (i := 9) HX2.out rfl; have c10 := cellAt (i := 10) HX2.out rfl;  clear hi hb hk) | (go_at_call 22; (with_reducible refine (writer_num' (w7.heap.size + 1 + 1) ([] ++ Pure.putL 2 1) (IntKind.u64.wrap inc) 4 4 rfl w _ HI2.out HB2.out (by (try simp only [List.length_append, Pure.putL_length, List.length_nil]); omega)).mono ?_); clear c0 c2 c3 c6 c7 c8 c9 c10; rintro e w_3 ⟨rfl, hi, hb, hk⟩; rw [HWR.out] at hi; have HI3 := Aside0.mk hi; have HB3 := Aside0.mk hb; have HK3 := Aside0.mk (HK2.out.trans hk (.inl rfl)); have HX3 := Aside0.mk (hk.blk HX2.out HNE.out (by simp)); have c0 := cellAt (i := 0) HX3.out rfl; have c2 := cellAt (i := 2) HX3.out rfl; have c3 := cellAt (i := 3) HX3.out rfl; have c6 := cellAt (i := 6) HX3.out rfl; have c7 := cellAt (i := 7) HX3.out rfl; have c8 := cellAt (i := 8) HX3.out rfl; have c9 := cellAt (i := 9) HX3.out rfl; have c10 := cellAt (i := 10) HX3.out rfl;  clear hi hb hk) | (go_at_call 22; (with_reducible refine (writer_num' (w7.heap.size + 1 + 1) ([] ++ Pure.putL 2 1 ++ Pure.putL inc 4) holds 8 8 rfl w _ HI3.out HB3.out (by (try simp only [List.length_append, Pure.putL_length, List.length_nil]); omega)).mono ?_); clear c0 c2 c3 c6 c7 c8 c9 c10; rintro e w_4 ⟨rfl, hi, hb, hk⟩; have HI4 := Aside0.mk hi; have HB4 := Aside0.mk hb; have HK4 := Aside0.mk (HK3.out.trans hk (.inl rfl)); have HX4 := Aside0.mk (hk.blk HX3.out HNE.out (by simp)); have c0 := cellAt (i := 0) HX4.out rfl; have c2 := cellAt (i := 2) HX4.out rfl; have c3 := cellAt (i := 3) HX4.out rfl; have c6 := cellAt (i := 6) HX4.out rfl; have c7 := cellAt (i := 7) HX4.out rfl; have c8 := cellAt (i := 8) HX4.out rfl; have c9 := cellAt (i := 9) HX4.out rfl; have c10 := cellAt (i := 10) HX4.out rfl;  clear hi hb hk) | ((with_reducible refine gate_dst (N := 36) rfl ?_); refine load_event rfl (.tmp 1) 34 rfl rfl (load34 HX4.out) ?_) | (go_at_call 31; (with_reducible refine (log_flags.calls 2 d inc holds has dir rn re rr rm A c l vn ve vr vm nb ix tt (flagsN has dir) w_4 (C27_keep HC.out HB4.out (KeepBut.refl _ (w7.heap.size + 1 + 1) _) (by have := HB7.out.size; omega)) HCC.out (flags_is _ _ _ _ _ _ _ _ _ _ _ _ _ _ _ _ _ _)).mono ?_); clear c0 c2 c3 c6 c7 c8 c9 c10; rintro e w_5 ⟨rfl, hb⟩; have HI5 := Aside0.mk (HI4.out.below hb); have HB5 := Aside0.mk (below_step HB4.out hb); have HK5 := Aside0.mk (HK4.out.trans (KeepBut.of_below hb _ none) (.inl rfl)); have HX5 := Aside0.mk ((hb.block gb (blk_lt HX4.out)).trans HX4.out); have c0 := cellAt (i := 0) HX5.out rfl; have c2 := cellAt (i := 2) HX5.out rfl; have c3 := cellAt (i := 3) HX5.out rfl; have c6 := cellAt (i := 6) HX5.out rfl; have c7 := cellAt (i := 7) HX5.out rfl; have c8 := cellAt (i := 8) HX5.out rfl; have c9 := cellAt (i := 9) HX5.out rfl; have c10 := cellAt (i := 10) HX5.out rfl;  clear hb) | (go_at_call 22; (with_reducible refine (writer_num' (w7.heap.size + 1 + 1) ([] ++ Pure.putL 2 1 ++ Pure.putL inc 4 ++ Pure.putL holds 8) (flagsN has dir) 1 1 rfl w _ HI5.out HB5.out (by (try simp only [List.length_append, Pure.putL_length, List.length_nil]); omega)).mono ?_); clear c0 c2 c3 c6 c7 c8 c9 c10; rintro e w_6 ⟨rfl, hi, hb, hk⟩; have HI6 := Aside0.mk hi; have HB6 := Aside0.mk hb; have HK6 := Aside0.mk (HK5.out.trans hk (.inl rfl)); have HX6 := Aside0.mk (hk.blk HX5.out HNE.out (by simp)); have c0 := cellAt (i := 0) HX6.out rfl; have c2 := cellAt (i := 2) HX6.out rfl; have c3 := cellAt (i := 3) HX6.out rfl; have c6 := cellAt (i := 6) HX6.out rfl; have c7 := cellAt (i := 7) HX6.out rfl; have c8 := cellAt (i := 8) HX6.out rfl; have c9 := cellAt (i := 9) HX6.out rfl; have c10 := cellAt (i := 10) HX6.out rfl;  clear hi hb hk) | (go_at_call 23; (with_reducible refine (writer_record_bad1 (w7.heap.size + 1 + 1) ([] ++ Pure.putL 2 1 ++ Pure.putL inc 4 ++ Pure.putL holds 8 ++ Pure.putL (flagsN has dir) 1) rn re rr rm A c l w _ HI6.out HB6.out (by (try simp only [List.length_append, Pure.putL_length, List.length_nil]); omega) (fun W' hk' => C27_keep HC.out HB6.out hk' (by have := HB7.out.size; omega)) HCD.out).mono ?_); clear c0 c2 c3 c6 c7 c8 c9 c10; rintro e w9 ⟨rfl, hb, hk⟩; have HRE := Aside0.mk (HRS.out.keep (HK6.out.trans hk (.inl rfl)) (by omega) hb); clear hb hk))
  refine leaves_cons (f := 30) (args := #[.pointer (some ⟨w7.heap.size, 0, none⟩), .pointer (some ⟨w7.heap.size + 1, 0, none⟩)]) (by simp) (by simp [go_sem]) ?_
  refine (printItem_catch w7.heap.size (w7.heap.size + 1) ⟨#[]⟩ 0 1 (by decide) w9 HRE.out.b0 HRE.out.b1).mono ?_
  rintro e u' w'' ⟨rfl, rfl, rfl⟩
  obtain ⟨W8, h8, c1, c2, hb⟩ := HRE.out.end_ ⟨#[]⟩ 1
  rw [← h8]
  clear h8
  simp [Leaves, settle, results, Try.results11, go_sem, c1, c2]
  exact hb
set_option maxHeartbeats 8000000 in
set_option maxRecDepth 100000 in
theorem item2_bad3 (d : ByteArray) (inc holds : Int) (has dir : Bool) (rn re rr rm : Int) (A : Option Addr) (c : Nat) (l : List S27) (vn ve vr vm nb ix tt : Int) (w : World) (hC : Kd.C k27 w A l.length l) (hcc : l.length ≤ c) (h5 : 0 ≤ inc ∧ inc ≤ 4294967295) (h0 : 0 ≤ rr ∧ rr < 64) (h2 : 32 < l.length) :
    Calls Try.prog 11 #[.agg #[.int .i64 2, .string d, .int .u32 inc, .int .u64 holds, .bool has, .bool dir, .int .u64 rn, .int .u64 re, .int .i64 rr, .int .u64 rm, .slice A l.length c, .int .u64 vn, .int .u64 ve, .int .i64 vr, .int .u64 vm, .int .u64 nb, .int .i64 ix, .int .i64 tt]] w fun e w' => e = .returned (.tuple #[.string ⟨#[]⟩, .int .i64 3]) ∧ Below w.heap.size w w' := by
  have HWR := Aside0.mk (show IntKind.u64.wrap inc = inc by simp [IntKind.wrap, IntKind.bits, IntKind.signed]; omega)
  have HC := Aside0.mk hC
  clear hC h5
  have HCC := Aside0.mk hcc
  clear hcc
  have HCD := Aside0.mk (show (0 ≤ rr ∧ rr < 64) ∧ 32 < l.length from ⟨h0, h2⟩)
  clear h0 h2
  have hmf : ∀ (fn : Fn) (first cap : Array Value) (w : World), (Instr.makeFunc fn first cap).run Try.prog w = .ok (.func fn first cap) w := fun _ _ _ _ => rfl
  go_enter_defers Try.func11, Try.ntmps11
  go_wp2_with (first | ((with_reducible refine gate_dst (N := 1) rfl ?_); refine box_event ?hg (N := 1) ?hd (cs := #[.int .i64 2, .string d, .int .u32 inc, .int .u64 holds, .bool has, .bool dir, .int .u64 rn, .int .u64 re, .int .i64 rr, .int .u64 rm, .slice A l.length c, .int .u64 vn, .int .u64 ve, .int .i64 vr, .int .u64 vm, .int .u64 nb, .int .i64 ix, .int .i64 tt]) (t := 34) ?hr ?_; (case hd => rfl); (case hg => rfl); (case hr => first | (go_simp; done) | (go_simp; rfl)); intro gb hg w7 hbox hb; have HB7 := Aside0.mk hb; have HX7 := Aside0.mk hbox; have HGB := Aside0.mk hg; clear hbox hb hg; have HB1 := Aside0.mk (show Below w.heap.size w (prW w7) from below_alloc (below_alloc (below_alloc HB7.out _) _) _); have HK1 := Aside0.mk (KeepBut.refl (prW w7) (w7.heap.size + 1 + 1) none); have HX1 := Aside0.mk (show (prW w7).heap[gb]? = _ from heap_old (heap_old (heap_old HX7.out _) _) _); have HNE := Aside0.mk (show gb ≠ w7.heap.size + 1 + 1 by have := blk_lt HX7.out; omega); have HRS := Aside0.mk (show Res w (prW w7) w7.heap.size from ⟨heap_old resW_b0 _, heap_old resW_b1 _, HB7.out.size, HB1.out⟩); have HI1 := Aside0.mk (newW (w := w) (w8 := prW w7) (g := w7.heap.size + 1 + 1) (by have := HB7.out.size; omega) (by have := heap_alloc_new (resW w7) (.cells #[.slice none 0 0] 67); rwa [resW_size] at this)); have c0 := cellAt (i := 0) HX1.out rfl; have c2 := cellAt (i := 2) HX1.out rfl; have c3 := cellAt (i := 3) HX1.out rfl; have c6 := cellAt (i := 6) HX1.out rfl; have c7 := cellAt (i := 7) HX1.out rfl; have c8 := cellAt (i := 8) HX1.out rfl; have c9 := cellAt (i := 9) HX1.out rfl; have c10 := cellAt (i := 10) HX1.out rfl; ) | (go_at_call 26; (with_reducible refine (bad_no _ _).mono ?_); rintro e w_ ⟨rfl, rfl⟩) | (go_at_call 22; (with_reducible refine (writer_num' (w7.heap.size + 1 + 1) [] 2 1 1 rfl w _ HI1.out HB1.out (by (try simp only [List.length_append, Pure.putL_length, List.length_nil]); omega)).mono ?_); clear c0 c2 c3 c6 c7 c8 c9 c10; rintro e w_2 ⟨rfl, hi, hb, hk⟩; have HI2 := Aside0.mk hi; have HB2 := Aside0.mk hb; have HK2 := Aside0.mk (HK1.out.trans hk (.inl rfl)); have HX2 := Aside0.mk (hk.blk HX1.out HNE.out (by simp)); have c0 := cellAt (i := 0) HX2.out rfl; have c2 := cellAt (i := 2) HX2.out rfl; have c3 := cellAt (i := 3) HX2.out rfl; have c6 := cellAt (i := 6) HX2.out rfl; have c7 := cellAt (i := 7) HX2.out rfl; have c8 := cellAt (i := 8) HX2.out rfl; have c9 := cellAt (i := 9) HX2.out rfl; have c10 := cellAt (i := 10) HX2.out rfl;  clear hi hb hk) | (go_at_call 22; (with_reducible refine (writer_num' (w7.heap.size + 1 + 1) ([] ++ Pure.putL 2 1) (IntKind.u64.wrap inc) 4 4 rfl w _ HI2.out HB2.out (by (try simp only [List.length_append, Pure.putL_length, List.length_nil]); omega)).mono ?_); clear c0 c2 c3 c6 c7 c8 c9 c10; rintro e w_3 ⟨rfl, hi, hb, hk⟩; rw [HWR.out] at hi; have HI3 := Aside0.mk hi; have HB3 := Aside0.mk hb; have HK3 := Aside0.mk (HK2.out.trans hk (.inl rfl)); have HX3 := Aside0.mk (hk.blk HX2.out HNE.out (by simp)); have c0 := cellAt (i := 0) HX3.out rfl; have c2 := cellAt (i := 2) HX3.out rfl; have c3 := cellAt (i := 3) HX3.out rfl; have c6 := cellAt (i := 6) HX3.out rfl; have c7 := cellAt (i := 7) HX3.out rfl; have c8 := cellAt (i := 8) HX3.out rfl; have c9 := cellAt (i := 9) HX3.out rfl; have c10 := cellAt (i := 10) HX3.out rfl;  clear hi hb hk) | (go_at_call 22; (with_reducible refine (writer_num' (w7.heap.size + 1 + 1) ([] ++ Pure.putL 2 1 ++ Pure.putL inc 4) holds 8 8 rfl w _ HI3.out HB3.out (by (try simp only [List.length_append, Pure.putL_length, List.length_nil]); omega)).mono ?_); clear c0 c2 c3 c6 c7 c8 c9 c10; rintro e w_4 ⟨rfl, hi, hb, hk⟩; have HI4 := Aside0.mk hi; have HB4 := Aside0.mk hb; have HK4 := Aside0.mk (HK3.out.trans hk (.inl rfl)); have HX4 := Aside0.mk (hk.blk HX3.out HNE.out (by simp)); have c0 := cellAt (i := 0) HX4.out rfl; have c2 := cellAt (i := 2) HX4.out rfl; have c3 := cellAt (i := 3) HX4.out rfl; have c6 := cellAt (i := 6) HX4.out rfl; have c7 := cellAt (i := 7) HX4.out rfl; have c8 := cellAt (i := 8) HX4.out rfl; have c9 := cellAt (i := 9) HX4.out rfl; have c10 := cellAt (i := 10) HX4.out rfl;  clear hi hb hk) | ((with_reducible refine gate_dst (N := 36) rfl ?_); refine load_event rfl (.tmp 1) 34 rfl rfl (load34 HX4.out) ?_) | (go_at_call 31; (with_reducible refine (log_flags.calls 2 d inc holds has dir rn re rr rm A c l vn ve vr vm nb ix tt (flagsN has dir) w_4 (C27_keep HC.out HB4.out (KeepBut.refl _ (w7.heap.size + 1 + 1) _) (by have := HB7.out.size; omega)) HCC.out (flags_is _ _ _ _ _ _ _ _ _ _ _ _ _ _ _ _ _ _)).mono ?_); clear c0 c2 c3 c6 c7 c8 c9 c10; rintro e w_5 ⟨rfl, hb⟩; have HI5 := Aside0.mk (HI4.out.below hb); have HB5 := Aside0.mk (below_step HB4.out hb); have HK5 := Aside0.mk (HK4.out.trans (KeepBut.of_below hb _ none) (.inl rfl)); have HX5 := Aside0.mk ((hb.block gb (blk_lt HX4.out)).trans HX4.out); have c0 := cellAt (i := 0) HX5.out rfl; have c2 := cellAt (i := 2) HX5.out rfl; have c3 := cellAt (i := 3) HX5.out rfl; have c6 := cellAt (i := 6) HX5.out rfl; have c7 := cellAt (i := 7) HX5.out rfl; have c8 := cellAt (i := 8) HX5.out rfl; have c9 := cellAt (i := 9) HX5.out rfl; have c10 := cellAt (i := 10) HX5.out rfl;  clear hb) | (go_at_call 22; (with_reducible refine (writer_num' (w7.heap.size + 1 + 1) ([] ++ Pure.putL 2 1 ++ Pure.putL inc 4 ++ Pure.putL holds 8) (flagsN has dir) 1 1 rfl w _ HI5.out HB5.out (by (try simp only [List.length_append, Pure.putL_length, List.length_nil]); omega)).mono ?_); clear c0 c2 c3 c6 c7 c8 c9 c10; rintro e w_6 ⟨rfl, hi, hb, hk⟩; have HI6 := Aside0.mk hi; have HB6 := Aside0.mk hb; have HK6 := Aside0.mk (HK5.out.trans hk (.inl rfl)); have HX6 := Aside0.mk (hk.blk HX5.out HNE.out (by simp)); have c0 := cellAt (i := 0) HX6.out rfl; have c2 := cellAt (i := 2) HX6.out rfl; have c3 := cellAt (i := 3) HX6.out rfl; have c6 := cellAt (i := 6) HX6.out rfl; have c7 := cellAt (i := 7) HX6.out rfl; have c8 := cellAt (i := 8) HX6.out rfl; have c9 := cellAt (i := 9) HX6.out rfl; have c10 := cellAt (i := 10) HX6.out rfl;  clear hi hb hk) | (go_at_call 23; (with_reducible refine (writer_record_bad3 (w7.heap.size + 1 + 1) ([] ++ Pure.putL 2 1 ++ Pure.putL inc 4 ++ Pure.putL holds 8 ++ Pure.putL (flagsN has dir) 1) rn re rr rm A c l w _ HI6.out HB6.out (by (try simp only [List.length_append, Pure.putL_length, List.length_nil]); omega) (fun W' hk' => C27_keep HC.out HB6.out hk' (by have := HB7.out.size; omega)) HCD.out.1.1 HCD.out.1.2 HCD.out.2).mono ?_); clear c0 c2 c3 c6 c7 c8 c9 c10; rintro e w9 ⟨rfl, hb, hk⟩; have HRE := Aside0.mk (HRS.out.keep (HK6.out.trans hk (.inl rfl)) (by omega) hb); clear hb hk))
  refine leaves_cons (f := 30) (args := #[.pointer (some ⟨w7.heap.size, 0, none⟩), .pointer (some ⟨w7.heap.size + 1, 0, none⟩)]) (by simp) (by simp [go_sem]) ?_
  refine (printItem_catch w7.heap.size (w7.heap.size + 1) ⟨#[]⟩ 0 3 (by decide) w9 HRE.out.b0 HRE.out.b1).mono ?_
  rintro e u' w'' ⟨rfl, rfl, rfl⟩
  obtain ⟨W8, h8, c1, c2, hb⟩ := HRE.out.end_ ⟨#[]⟩ 3
  rw [← h8]
  clear h8
  simp [Leaves, settle, results, Try.results11, go_sem, c1, c2]
  exact hb
set_option maxHeartbeats 8000000 in
set_option maxRecDepth 100000 in
theorem item2_bad2 (d : ByteArray) (inc holds : Int) (has dir : Bool) (rn re rr rm : Int) (A : Option Addr) (c : Nat) (l : List S27) (vn ve vr vm nb ix tt : Int) (w : World) (hC : Kd.C k27 w A l.length l) (hcc : l.length ≤ c) (h5 : 0 ≤ inc ∧ inc ≤ 4294967295) (h0 : 0 ≤ rr ∧ rr < 64) (h2 : l.length ≤ 32) (h3 : ∃ x ∈ l, ¬ sOk x) :
    Calls Try.prog 11 #[.agg #[.int .i64 2, .string d, .int .u32 inc, .int .u64 holds, .bool has, .bool dir, .int .u64 rn, .int .u64 re, .int .i64 rr, .int .u64 rm, .slice A l.length c, .int .u64 vn, .int .u64 ve, .int .i64 vr, .int .u64 vm, .int .u64 nb, .int .i64 ix, .int .i64 tt]] w fun e w' => e = .returned (.tuple #[.string ⟨#[]⟩, .int .i64 1]) ∧ Below w.heap.size w w' := by
  have HWR := Aside0.mk (show IntKind.u64.wrap inc = inc by simp [IntKind.wrap, IntKind.bits, IntKind.signed]; omega)
  have HC := Aside0.mk hC
  clear hC h5
  have HCC := Aside0.mk hcc
  clear hcc
  have HCD := Aside0.mk (show (0 ≤ rr ∧ rr < 64) ∧ l.length ≤ 32 ∧ ∃ x ∈ l, ¬ sOk x from ⟨h0, h2, h3⟩)
  clear h0 h2 h3
  have hmf : ∀ (fn : Fn) (first cap : Array Value) (w : World), (Instr.makeFunc fn first cap).run Try.prog w = .ok (.func fn first cap) w := fun _ _ _ _ => rfl
  go_enter_defers Try.func11, Try.ntmps11
  go_wp2_with (first | ((with_reducible refine gate_dst (N := 1) rfl ?_); refine box_event ?hg (N := 1) ?hd (cs := #[.int .i64 2, .string d, .int .u32 inc, .int .u64 holds, .bool has, .bool dir, .int .u64 rn, .int .u64 re, .int .i64 rr, .int .u64 rm, .slice A l.length c, .int .u64 vn, .int .u64 ve, .int .i64 vr, .int .u64 vm, .int .u64 nb, .int .i64 ix, .int .i64 tt]) (t := 34) ?hr ?_; (case hd => rfl); (case hg => rfl); (case hr => first | (go_simp; done) | (go_simp; rfl)); intro gb hg w7 hbox hb; have HB7 := Aside0.mk hb; have HX7 := Aside0.mk hbox; have HGB := Aside0.mk hg; clear hbox hb hg; have HB1 := Aside0.mk (show Below w.heap.size w (prW w7) from below_alloc (below_alloc (below_alloc HB7.out _) _) _); have HK1 := Aside0.mk (KeepBut.refl (prW w7) (w7.heap.size + 1 + 1) none); have HX1 := Aside0.mk (show (prW w7).heap[gb]? = _ from heap_old (heap_old (heap_old HX7.out _) _) _); have HNE := Aside0.mk (show gb ≠ w7.heap.size + 1 + 1 by have := blk_lt HX7.out; omega); have HRS := Aside0.mk (show Res w (prW w7) w7.heap.size from ⟨heap_old resW_b0 _, heap_old resW_b1 _, HB7.out.size, HB1.out⟩); have HI1 := Aside0.mk (newW (w := w) (w8 := prW w7) (g := w7.heap.size + 1 + 1) (by have := HB7.out.size; omega) (by have := heap_alloc_new (resW w7) (.cells #[.slice none 0 0] 67); rwa [resW_size] at this)); have c0 := cellAt (i := 0) HX1.out rfl; have c2 := cellAt (i := 2) HX1.out rfl; have c3 := cellAt (i := 3) HX1.out rfl; have c6 := cellAt (i := 6) HX1.out rfl; have c7 := cellAt (i := 7) HX1.out rfl; have c8 := cellAt (i := 8) HX1.out rfl; have c9 := cellAt (i := 9) HX1.out rfl; have c10 := cellAt (i := 10) HX1.out rfl; ) | (go_at_call 26; (with_reducible refine (bad_no _ _).mono ?_); rintro e w_ ⟨rfl, rfl⟩) | (go_at_call 22; (with_reducible refine (writer_num' (w7.heap.size + 1 + 1) [] 2 1 1 rfl w _ HI1.out HB1.out (by (try simp only [List.length_append, Pure.putL_length, List.length_nil]); omega)).mono ?_); clear c0 c2 c3 c6 c7 c8 c9 c10; rintro e w_2 ⟨rfl, hi, hb, hk⟩; have HI2 := Aside0.mk hi; have HB2 := Aside0.mk hb; have HK2 := Aside0.mk (HK1.out.trans hk (.inl rfl)); have HX2 := Aside0.mk (hk.blk HX1.out HNE.out (by simp)); have c0 := cellAt (i := 0) HX2.out rfl; have c2 := cellAt (i := 2) HX2.out rfl; have c3 := cellAt (i := 3) HX2.out rfl; have c6 := cellAt (i := 6) HX2.out rfl; have c7 := cellAt (i := 7) HX2.out rfl; have c8 := cellAt (i := 8) HX2.out rfl; have c9 := cellAt (i := 9) HX2.out rfl; have c10 := cellAt (i := 10) HX2.out rfl;  clear hi hb hk) | (go_at_call 22; (with_reducible refine (writer_num' (w7.heap.size + 1 + 1) ([] ++ Pure.putL 2 1) (IntKind.u64.wrap inc) 4 4 rfl w _ HI2.out HB2.out (by (try simp only [List.length_append, Pure.putL_length, List.length_nil]); omega)).mono ?_); clear c0 c2 c3 c6 c7 c8 c9 c10; rintro e w_3 ⟨rfl, hi, hb, hk⟩; rw [HWR.out] at hi; have HI3 := Aside0.mk hi; have HB3 := Aside0.mk hb; have HK3 := Aside0.mk (HK2.out.trans hk (.inl rfl)); have HX3 := Aside0.mk (hk.blk HX2.out HNE.out (by simp)); have c0 := cellAt (i := 0) HX3.out rfl; have c2 := cellAt (i := 2) HX3.out rfl; have c3 := cellAt (i := 3) HX3.out rfl; have c6 := cellAt (i := 6) HX3.out rfl; have c7 := cellAt (i := 7) HX3.out rfl; have c8 := cellAt (i := 8) HX3.out rfl; have c9 := cellAt (i := 9) HX3.out rfl; have c10 := cellAt (i := 10) HX3.out rfl;  clear hi hb hk) | (go_at_call 22; (with_reducible refine (writer_num' (w7.heap.size + 1 + 1) ([] ++ Pure.putL 2 1 ++ Pure.putL inc 4) holds 8 8 rfl w _ HI3.out HB3.out (by (try simp only [List.length_append, Pure.putL_length, List.length_nil]); omega)).mono ?_); clear c0 c2 c3 c6 c7 c8 c9 c10; rintro e w_4 ⟨rfl, hi, hb, hk⟩; have HI4 := Aside0.mk hi; have HB4 := Aside0.mk hb; have HK4 := Aside0.mk (HK3.out.trans hk (.inl rfl)); have HX4 := Aside0.mk (hk.blk HX3.out HNE.out (by simp)); have c0 := cellAt (i := 0) HX4.out rfl; have c2 := cellAt (i := 2) HX4.out rfl; have c3 := cellAt (i := 3) HX4.out rfl; have c6 := cellAt (i := 6) HX4.out rfl; have c7 := cellAt (i := 7) HX4.out rfl; have c8 := cellAt (i := 8) HX4.out rfl; have c9 := cellAt (i := 9) HX4.out rfl; have c10 := cellAt (i := 10) HX4.out rfl;  clear hi hb hk) | ((with_reducible refine gate_dst (N := 36) rfl ?_); refine load_event rfl (.tmp 1) 34 rfl rfl (load34 HX4.out) ?_) | (go_at_call 31; (with_reducible refine (log_flags.calls 2 d inc holds has dir rn re rr rm A c l vn ve vr vm nb ix tt (flagsN has dir) w_4 (C27_keep HC.out HB4.out (KeepBut.refl _ (w7.heap.size + 1 + 1) _) (by have := HB7.out.size; omega)) HCC.out (flags_is _ _ _ _ _ _ _ _ _ _ _ _ _ _ _ _ _ _)).mono ?_); clear c0 c2 c3 c6 c7 c8 c9 c10; rintro e w_5 ⟨rfl, hb⟩; have HI5 := Aside0.mk (HI4.out.below hb); have HB5 := Aside0.mk (below_step HB4.out hb); have HK5 := Aside0.mk (HK4.out.trans (KeepBut.of_below hb _ none) (.inl rfl)); have HX5 := Aside0.mk ((hb.block gb (blk_lt HX4.out)).trans HX4.out); have c0 := cellAt (i := 0) HX5.out rfl; have c2 := cellAt (i := 2) HX5.out rfl; have c3 := cellAt (i := 3) HX5.out rfl; have c6 := cellAt (i := 6) HX5.out rfl; have c7 := cellAt (i := 7) HX5.out rfl; have c8 := cellAt (i := 8) HX5.out rfl; have c9 := cellAt (i := 9) HX5.out rfl; have c10 := cellAt (i := 10) HX5.out rfl;  clear hb) | (go_at_call 22; (with_reducible refine (writer_num' (w7.heap.size + 1 + 1) ([] ++ Pure.putL 2 1 ++ Pure.putL inc 4 ++ Pure.putL holds 8) (flagsN has dir) 1 1 rfl w _ HI5.out HB5.out (by (try simp only [List.length_append, Pure.putL_length, List.length_nil]); omega)).mono ?_); clear c0 c2 c3 c6 c7 c8 c9 c10; rintro e w_6 ⟨rfl, hi, hb, hk⟩; have HI6 := Aside0.mk hi; have HB6 := Aside0.mk hb; have HK6 := Aside0.mk (HK5.out.trans hk (.inl rfl)); have HX6 := Aside0.mk (hk.blk HX5.out HNE.out (by simp)); have c0 := cellAt (i := 0) HX6.out rfl; have c2 := cellAt (i := 2) HX6.out rfl; have c3 := cellAt (i := 3) HX6.out rfl; have c6 := cellAt (i := 6) HX6.out rfl; have c7 := cellAt (i := 7) HX6.out rfl; have c8 := cellAt (i := 8) HX6.out rfl; have c9 := cellAt (i := 9) HX6.out rfl; have c10 := cellAt (i := 10) HX6.out rfl;  clear hi hb hk) | (go_at_call 23; (with_reducible refine (writer_record_bad2 (w7.heap.size + 1 + 1) ([] ++ Pure.putL 2 1 ++ Pure.putL inc 4 ++ Pure.putL holds 8 ++ Pure.putL (flagsN has dir) 1) rn re rr rm A c l w _ HI6.out HB6.out (by (try simp only [List.length_append, Pure.putL_length, List.length_nil]); omega) (fun W' hk' => C27_keep HC.out HB6.out hk' (by have := HB7.out.size; omega)) HCD.out.1.1 HCD.out.1.2 HCD.out.2.1 HCD.out.2.2).mono ?_); clear c0 c2 c3 c6 c7 c8 c9 c10; rintro e w9 ⟨rfl, hb, hk⟩; have HRE := Aside0.mk (HRS.out.keep (HK6.out.trans hk (.inl rfl)) (by omega) hb); clear hb hk))
  refine leaves_cons (f := 30) (args := #[.pointer (some ⟨w7.heap.size, 0, none⟩), .pointer (some ⟨w7.heap.size + 1, 0, none⟩)]) (by simp) (by simp [go_sem]) ?_
  refine (printItem_catch w7.heap.size (w7.heap.size + 1) ⟨#[]⟩ 0 1 (by decide) w9 HRE.out.b0 HRE.out.b1).mono ?_
  rintro e u' w'' ⟨rfl, rfl, rfl⟩
  obtain ⟨W8, h8, c1, c2, hb⟩ := HRE.out.end_ ⟨#[]⟩ 1
  rw [← h8]
  clear h8
  simp [Leaves, settle, results, Try.results11, go_sem, c1, c2]
  exact hb
end Go.Proofs.Ytlkemknhmfjdpaa.P
/- PrintItem's contract, by hand: items with bytes of their own. -/
namespace Go.Proofs.Ytlkemknhmfjdpaa.P
open Go.RowKit Go.Proofs.YtlkemknhmfjdpaaW.PrintWords Go.Proofs.YtlkemknhmfjdpaaW.PrintLast Go.Proofs.YtlkemknhmfjdpaaW.PrintMore
attribute [local go_sem] max2_int min2_int max_two min_two max_three min_three max_four min_four
set_option linter.unusedVariables false
set_option linter.unusedSimpArgs false

theorem step_append_str {P : Program} {ops : Array Oper} {o : Oper} {a : Act} {K : Act → World → Prop} {Q : Exit → Act → World → Prop} {E : Prop} {w0 W : World} (base : Nat) (hgd : o.guard = none) (s x : Operand) (t u e : TypeId)
    (ho : o.op = .call { callee := .builtin .append, args := #[s, x], argTypes := #[t, u] })
    (ht : P.underlying t = some (.slice e)) (hu : P.underlying u = some .string) (hinfo : (P.info? e).map (fun i => (i.zero, i.size, i.bytes)) = some (some (.int .u8 0), 1, 1))
    (v : Value) (xs : List Int) (y : ByteArray) (hs : a.eval s = v) (hx : a.eval x = .string y)
    (HO : (Kd.int .u8).R e W base (fun _ => True) v xs) (HB : Below base w0 W) (hbase : base ≤ W.heap.size) (hl : xs.length + y.size ≤ 140737488355328)
    (h : ∀ v1 w1, (Kd.int .u8).R e w1 base (fun _ => True) v1 (xs ++ bytesOf y) → Below base w0 w1 → W.grownBy w1 v.ownBlock → K (a.put o.dst v1) w1) :
    if Region.wanted o (yielded ops a.tmps) = true then Oper.wp P o a W K Q else E := by
  have hw : Region.wanted o (yielded ops a.tmps) = true := by simp [Region.wanted, hgd]
  rw [if_pos hw]
  obtain ⟨i0, hi, hzz⟩ := Option.map_eq_some_iff.1 hinfo
  simp only [Prod.mk.injEq] at hzz
  obtain ⟨hz0, hz1, hz2⟩ := hzz
  have hown := Kd.own_of_R HO
  obtain ⟨v1, w1, hr, h2, h3, h4⟩ := Lib.run_append_own_string (P := P) W base t u o.type e i0 ht hu hi hz0 hz1 hz2 v xs.length (nums .u8 xs) hown y (by simp only [maxLen]; omega) hl hbase
  have hl2 : (xs ++ bytesOf y).length = xs.length + y.size := by rw [List.length_append, bytesOf_length]
  have hc : nums .u8 (xs ++ bytesOf y) = nums .u8 xs ++ Lib.strCells y := by
    rw [nums_append]
    congr 1
    simp [nums, bytesOf, Lib.strCells]
  unfold Oper.wp execOp
  simp only [ho, resolve, invoke, builtin, Sem.run_bind, Sem.run_pure, Result.andThen_ok, List.map_toArray, List.map_cons, List.map_nil, hs, hx, hr]
  exact h v1 w1 (Kd.R_of_own (by rw [hl2]; show w1.ownsRow base e 1 v1 _ (nums .u8 (xs ++ bytesOf y)); rw [hc]; exact h2) (fun _ _ => trivial)) (HB.grown h3 hbase (own_base hown)) h3
/-- Where nothing panics, no panic's way is asked. -/
def OnlyN (K : Act → World → Prop) : Exit → Act → World → Prop
  | .normal, a, w => K a w
  | _, _, _ => False
theorem wp_onlyN {P : Program} {c : Code} {Q : Exit → Act → World → Prop} {a : Act} {w : World} (h : c.wp P (OnlyN fun a w => Q .normal a w) a w) : c.wp P Q a w :=
  Code.wp_mono (fun e a w h => by cases e <;> first | exact h | exact h.elim) h
/-- The writer's cell and its row, told apart. -/
theorem IsW.opened {w0 W : World} {g : Nat} {xs : List Int} (h : IsW w0 W g xs) : ∃ A k, W.heap[g]? = some (.cells #[.slice A xs.length k] 67 (0, 0)) ∧ Kd.R (Kd.int .u8) 5 W w0.heap.size (fun _ => True) (.slice A xs.length k) xs := by
  obtain ⟨v, hb, _, hr⟩ := h
  obtain ⟨A, k, rfl⟩ := Kd.R_slice hr
  exact ⟨A, k, hb, hr⟩
theorem Res.app {w0 W w1 : World} {b g : Nat} {v : Value} {xs : List Int} (h : Res w0 W b) (hR : Kd.R (Kd.int .u8) 5 W w0.heap.size (fun _ => True) v xs) (hg : W.drew.grownBy w1 v.ownBlock) (hb1 : Below w0.heap.size w0 w1) (hgb : b + 1 < g) (u : Value) : Res w0 (w1.setCell ⟨g, 0, none⟩ u) b :=
  ⟨blk_far (p := ⟨g, 0, none⟩) (blk_grown (show W.drew.heap[b]? = _ from h.b0) hg (Kd.R_ne hR h.b0 (by decide))) (show b ≠ g by omega) u, blk_far (p := ⟨g, 0, none⟩) (blk_grown (show W.drew.heap[b + 1]? = _ from h.b1) hg (Kd.R_ne hR h.b1 (by decide))) (show b + 1 ≠ g by omega) u, h.ge, below_set hb1 (by have := h.ge; omega)⟩
theorem IsW.app {w0 w1 : World} {g : Nat} {v u : Value} {ys : List Int} (hb : w1.heap[g]? = some (.cells #[u] 67 (0, 0))) (hR : Kd.R (Kd.int .u8) 5 w1 w0.heap.size (fun _ => True) v ys) (hge : w0.heap.size ≤ g) : IsW w0 (w1.setCell ⟨g, 0, none⟩ v) g ys :=
  ⟨v, blk_set hb 0 _, hge, Kd.R_mono (Kd.R_far (p := ⟨g, 0, none⟩) (Kd.R_types hR hb (by decide)) (fun _ hk => hk.2) _) (fun _ _ => trivial)⟩
set_option maxHeartbeats 8000000 in
set_option maxRecDepth 100000 in
theorem item1_good (d : ByteArray) (inc holds : Int) (has dir : Bool) (rn re rr rm : Int) (A : Option Addr) (c : Nat) (l : List S27) (vn ve vr vm nb ix tt : Int) (w : World) (h0 : d.size ≤ 1023) :
    Calls Try.prog 11 #[.agg #[.int .i64 1, .string d, .int .u32 inc, .int .u64 holds, .bool has, .bool dir, .int .u64 rn, .int .u64 re, .int .i64 rr, .int .u64 rm, .slice A l.length c, .int .u64 vn, .int .u64 ve, .int .i64 vr, .int .u64 vm, .int .u64 nb, .int .i64 ix, .int .i64 tt]] w fun e w' => e = .returned (.tuple #[.string (strOfNums (([] ++ Pure.putL 1 1) ++ bytesOf d)), .int .i64 0]) ∧ Below w.heap.size w w' := by
  have HD := Aside0.mk h0
  clear h0
  have hmf : ∀ (fn : Fn) (first cap : Array Value) (w : World), (Instr.makeFunc fn first cap).run Try.prog w = .ok (.func fn first cap) w := fun _ _ _ _ => rfl
  go_enter_defers Try.func11, Try.ntmps11
  go_wp2_with (first | ((with_reducible refine gate_dst (N := 1) rfl ?_); refine box_event ?hg (N := 1) ?hd (cs := #[.int .i64 1, .string d, .int .u32 inc, .int .u64 holds, .bool has, .bool dir, .int .u64 rn, .int .u64 re, .int .i64 rr, .int .u64 rm, .slice A l.length c, .int .u64 vn, .int .u64 ve, .int .i64 vr, .int .u64 vm, .int .u64 nb, .int .i64 ix, .int .i64 tt]) (t := 34) ?hr ?_; (case hd => rfl); (case hg => rfl); (case hr => first | (go_simp; done) | (go_simp; rfl)); intro gb hg w7 hbox hb; have HB7 := Aside0.mk hb; have HX7 := Aside0.mk hbox; have HGB := Aside0.mk hg; clear hbox hb hg; have HB1 := Aside0.mk (show Below w.heap.size w (prW w7) from below_alloc (below_alloc (below_alloc HB7.out _) _) _); have HK1 := Aside0.mk (KeepBut.refl (prW w7) (w7.heap.size + 1 + 1) none); have HX1 := Aside0.mk (show (prW w7).heap[gb]? = _ from heap_old (heap_old (heap_old HX7.out _) _) _); have HNE := Aside0.mk (show gb ≠ w7.heap.size + 1 + 1 by have := blk_lt HX7.out; omega); have HRS := Aside0.mk (show Res w (prW w7) w7.heap.size from ⟨heap_old resW_b0 _, heap_old resW_b1 _, HB7.out.size, HB1.out⟩); have HI1 := Aside0.mk (newW (w := w) (w8 := prW w7) (g := w7.heap.size + 1 + 1) (by have := HB7.out.size; omega) (by have := heap_alloc_new (resW w7) (.cells #[.slice none 0 0] 67); rwa [resW_size] at this)); have c0 := cellAt (i := 0) HX1.out rfl; have c1 := cellAt (i := 1) HX1.out rfl; ) | (go_at_call 26; (with_reducible refine (bad_no _ _).mono ?_); rintro e w_ ⟨rfl, rfl⟩) | (go_at_call 22; (with_reducible refine (writer_num' (w7.heap.size + 1 + 1) [] 1 1 1 rfl w _ HI1.out HB1.out (by (try simp only [List.length_append, Pure.putL_length, List.length_nil]); omega)).mono ?_); clear c0 c1; rintro e w_2 ⟨rfl, hi, hb, hk⟩; have HI2 := Aside0.mk hi; have HB2 := Aside0.mk hb; have HK2 := Aside0.mk (HK1.out.trans hk (.inl rfl)); have HX2 := Aside0.mk (hk.blk HX1.out HNE.out (by simp)); have c0 := cellAt (i := 0) HX2.out rfl; have c1 := cellAt (i := 1) HX2.out rfl;  obtain ⟨A2, k2, hbw, hrw⟩ := HI2.out.opened; obtain ⟨XS, hXS⟩ : ∃ X, X = ([] ++ Pure.putL 1 1) := ⟨_, rfl⟩; rw [← hXS] at hbw hrw; have HXS := Aside0.mk hXS; have HR2 := Aside0.mk hrw; have HBW := Aside0.mk hbw; have cw := cellAt (i := 0) hbw rfl; clear hXS hbw hrw; clear hi hb hk))
  have HLX := Aside0.mk (show XS.length + d.size ≤ 140737488355328 by have hd := HD.out; rw [HXS.out]; simp only [List.length_append, Pure.putL_length, List.length_nil]; omega)
  obtain ⟨YS, hYS⟩ : ∃ Y, Y = XS ++ bytesOf d := ⟨_, rfl⟩
  have HYS := Aside0.mk hYS
  clear hYS
  go_cut [99] from 92 to 102 (fun v99 wx => Aside0 (IsW w wx (w7.heap.size + 1 + 1) YS) ∧ Aside0 (Res w wx w7.heap.size))
  case first =>
    refine wp_onlyN ?_
    go_region_law (refine step_append_str (w0 := w) w.heap.size rfl (.tmp 96) (.tmp 98) 65 9 5 rfl Try.underlying65 Try.underlying9 info5 (.slice A2 XS.length k2) XS d (by simp [Act.eval, Act.put]) (by simp [Act.eval, Act.put]) (Kd.R_drew HR2.out) (below_drew HB2.out) HB2.out.size HLX.out ?_; intro v1 w1 ho hb hg; rw [← HYS.out] at ho; obtain ⟨A1, k1, rfl⟩ := Kd.R_slice ho; have HBW1 := Aside0.mk (blk_grown (show w_2.drew.heap[w7.heap.size + 1 + 1]? = _ from HBW.out) hg (Kd.R_ne HR2.out HBW.out (by decide))); have cw1 := cellAt (i := 0) HBW1.out rfl; have fw1 := blk_frozen HBW1.out 0; have HR3 := Aside0.mk ho; have HB3_ := Aside0.mk hb; have HG3 := Aside0.mk hg; clear ho hb hg)
    all_goals
      dsimp only [OnlyN]
      go_wp2_with fail
      go_meet
      case rel => exact ⟨⟨IsW.app HBW1.out HR3.out (by have := HB7.out.size; omega)⟩, ⟨(HRS.out.keep HK2.out (by omega) HB2.out).app HR2.out HG3.out HB3_.out (by omega) _⟩⟩
  case rest =>
    obtain ⟨HI9, HRE⟩ := hcut
    obtain ⟨A9, k9, hbw, hrw⟩ := HI9.out.opened
    have b20 : decide ((1024 : Int) < (YS.length : Int)) = false := decide_eq_false (by have hd := HD.out; rw [HYS.out, HXS.out]; simp only [List.length_append, Pure.putL_length, List.length_nil, bytesOf_length]; omega)
    clear c0 c1 cw
    have cw := cellAt (i := 0) hbw rfl
    have hcv := own_string (P := Try.prog) Try.underlying65 Try.underlying5 Try.underlying9 (Kd.own_of_R hrw)
    obtain ⟨S, hS⟩ : ∃ S, S = strOfNums YS := ⟨_, rfl⟩
    rw [← hS] at hcv
    have HS := Aside0.mk hS
    obtain ⟨⟨r0, f0⟩, ⟨r1, f1⟩⟩ := HRE.out.cells S
    clear hbw hrw hS
    go_wp2_with (first | (go_at_call 26; (with_reducible refine (bad_no _ _).mono ?_); rintro e w_ ⟨rfl, rfl⟩))
    clear r0 r1 f0 f1 hcv cw
    refine leaves_cons (f := 30) (args := #[.pointer (some ⟨w7.heap.size, 0, none⟩), .pointer (some ⟨w7.heap.size + 1, 0, none⟩)]) (by simp) (by simp [go_sem]) ?_
    refine (printItem_idle w7.heap.size (w7.heap.size + 1) _).mono ?_
    rintro e u' w'' ⟨rfl, rfl, rfl⟩
    obtain ⟨W8, h8, c1, c2, hb⟩ := HRE.out.end_ S 0
    rw [← h8]
    clear h8
    simp [Leaves, settle, results, Try.results11, go_sem, c1, c2]
    exact ⟨by rw [HS.out, HYS.out, HXS.out]; rfl, hb⟩
set_option maxHeartbeats 8000000 in
set_option maxRecDepth 100000 in
theorem item1_long (d : ByteArray) (inc holds : Int) (has dir : Bool) (rn re rr rm : Int) (A : Option Addr) (c : Nat) (l : List S27) (vn ve vr vm nb ix tt : Int) (w : World) (h0 : 1023 < d.size) (h1 : d.size ≤ 1000000) :
    Calls Try.prog 11 #[.agg #[.int .i64 1, .string d, .int .u32 inc, .int .u64 holds, .bool has, .bool dir, .int .u64 rn, .int .u64 re, .int .i64 rr, .int .u64 rm, .slice A l.length c, .int .u64 vn, .int .u64 ve, .int .i64 vr, .int .u64 vm, .int .u64 nb, .int .i64 ix, .int .i64 tt]] w fun e w' => e = .returned (.tuple #[.string ⟨#[]⟩, .int .i64 3]) ∧ Below w.heap.size w w' := by
  have HD := Aside0.mk (show 1024 < 1 + d.size ∧ d.size ≤ 1000000 from ⟨by omega, h1⟩)
  clear h0 h1
  have hmf : ∀ (fn : Fn) (first cap : Array Value) (w : World), (Instr.makeFunc fn first cap).run Try.prog w = .ok (.func fn first cap) w := fun _ _ _ _ => rfl
  go_enter_defers Try.func11, Try.ntmps11
  go_wp2_with (first | ((with_reducible refine gate_dst (N := 1) rfl ?_); refine box_event ?hg (N := 1) ?hd (cs := #[.int .i64 1, .string d, .int .u32 inc, .int .u64 holds, .bool has, .bool dir, .int .u64 rn, .int .u64 re, .int .i64 rr, .int .u64 rm, .slice A l.length c, .int .u64 vn, .int .u64 ve, .int .i64 vr, .int .u64 vm, .int .u64 nb, .int .i64 ix, .int .i64 tt]) (t := 34) ?hr ?_; (case hd => rfl); (case hg => rfl); (case hr => first | (go_simp; done) | (go_simp; rfl)); intro gb hg w7 hbox hb; have HB7 := Aside0.mk hb; have HX7 := Aside0.mk hbox; have HGB := Aside0.mk hg; clear hbox hb hg; have HB1 := Aside0.mk (show Below w.heap.size w (prW w7) from below_alloc (below_alloc (below_alloc HB7.out _) _) _); have HK1 := Aside0.mk (KeepBut.refl (prW w7) (w7.heap.size + 1 + 1) none); have HX1 := Aside0.mk (show (prW w7).heap[gb]? = _ from heap_old (heap_old (heap_old HX7.out _) _) _); have HNE := Aside0.mk (show gb ≠ w7.heap.size + 1 + 1 by have := blk_lt HX7.out; omega); have HRS := Aside0.mk (show Res w (prW w7) w7.heap.size from ⟨heap_old resW_b0 _, heap_old resW_b1 _, HB7.out.size, HB1.out⟩); have HI1 := Aside0.mk (newW (w := w) (w8 := prW w7) (g := w7.heap.size + 1 + 1) (by have := HB7.out.size; omega) (by have := heap_alloc_new (resW w7) (.cells #[.slice none 0 0] 67); rwa [resW_size] at this)); have c0 := cellAt (i := 0) HX1.out rfl; have c1 := cellAt (i := 1) HX1.out rfl; ) | (go_at_call 26; (with_reducible refine (bad_no _ _).mono ?_); rintro e w_ ⟨rfl, rfl⟩) | (go_at_call 22; (with_reducible refine (writer_num' (w7.heap.size + 1 + 1) [] 1 1 1 rfl w _ HI1.out HB1.out (by (try simp only [List.length_append, Pure.putL_length, List.length_nil]); omega)).mono ?_); clear c0 c1; rintro e w_2 ⟨rfl, hi, hb, hk⟩; have HI2 := Aside0.mk hi; have HB2 := Aside0.mk hb; have HK2 := Aside0.mk (HK1.out.trans hk (.inl rfl)); have HX2 := Aside0.mk (hk.blk HX1.out HNE.out (by simp)); have c0 := cellAt (i := 0) HX2.out rfl; have c1 := cellAt (i := 1) HX2.out rfl;  obtain ⟨A2, k2, hbw, hrw⟩ := HI2.out.opened; obtain ⟨XS, hXS⟩ : ∃ X, X = ([] ++ Pure.putL 1 1) := ⟨_, rfl⟩; rw [← hXS] at hbw hrw; have HXS := Aside0.mk hXS; have HR2 := Aside0.mk hrw; have HBW := Aside0.mk hbw; have cw := cellAt (i := 0) hbw rfl; clear hXS hbw hrw; clear hi hb hk))
  have HLX := Aside0.mk (show XS.length + d.size ≤ 140737488355328 by have hd := HD.out; rw [HXS.out]; simp only [List.length_append, Pure.putL_length, List.length_nil]; omega)
  obtain ⟨YS, hYS⟩ : ∃ Y, Y = XS ++ bytesOf d := ⟨_, rfl⟩
  have HYS := Aside0.mk hYS
  clear hYS
  go_cut [99] from 92 to 102 (fun v99 wx => Aside0 (IsW w wx (w7.heap.size + 1 + 1) YS) ∧ Aside0 (Res w wx w7.heap.size))
  case first =>
    refine wp_onlyN ?_
    go_region_law (refine step_append_str (w0 := w) w.heap.size rfl (.tmp 96) (.tmp 98) 65 9 5 rfl Try.underlying65 Try.underlying9 info5 (.slice A2 XS.length k2) XS d (by simp [Act.eval, Act.put]) (by simp [Act.eval, Act.put]) (Kd.R_drew HR2.out) (below_drew HB2.out) HB2.out.size HLX.out ?_; intro v1 w1 ho hb hg; rw [← HYS.out] at ho; obtain ⟨A1, k1, rfl⟩ := Kd.R_slice ho; have HBW1 := Aside0.mk (blk_grown (show w_2.drew.heap[w7.heap.size + 1 + 1]? = _ from HBW.out) hg (Kd.R_ne HR2.out HBW.out (by decide))); have cw1 := cellAt (i := 0) HBW1.out rfl; have fw1 := blk_frozen HBW1.out 0; have HR3 := Aside0.mk ho; have HB3_ := Aside0.mk hb; have HG3 := Aside0.mk hg; clear ho hb hg)
    all_goals
      dsimp only [OnlyN]
      go_wp2_with fail
      go_meet
      case rel => exact ⟨⟨IsW.app HBW1.out HR3.out (by have := HB7.out.size; omega)⟩, ⟨(HRS.out.keep HK2.out (by omega) HB2.out).app HR2.out HG3.out HB3_.out (by omega) _⟩⟩
  case rest =>
    obtain ⟨HI9, HRE⟩ := hcut
    obtain ⟨A9, k9, hbw, hrw⟩ := HI9.out.opened
    have b20 : decide ((1024 : Int) < (YS.length : Int)) = true := decide_eq_true (by have hd := HD.out; rw [HYS.out, HXS.out]; simp only [List.length_append, Pure.putL_length, List.length_nil, bytesOf_length]; omega)
    clear c0 c1 cw
    have cw := cellAt (i := 0) hbw rfl
    clear hbw hrw
    go_wp2_with (go_at_call 26; (with_reducible refine (bad_yes 3 _).mono ?_); rintro e w_ ⟨rfl, rfl⟩)
    clear cw
    refine leaves_cons (f := 30) (args := #[.pointer (some ⟨w7.heap.size, 0, none⟩), .pointer (some ⟨w7.heap.size + 1, 0, none⟩)]) (by simp) (by simp [go_sem]) ?_
    refine (printItem_catch w7.heap.size (w7.heap.size + 1) ⟨#[]⟩ 0 3 (by decide) _ HRE.out.b0 HRE.out.b1).mono ?_
    rintro e u' w'' ⟨rfl, rfl, rfl⟩
    obtain ⟨W8, h8, c1, c2, hb⟩ := HRE.out.end_ ⟨#[]⟩ 3
    rw [← h8]
    clear h8
    simp [Leaves, settle, results, Try.results11, go_sem, c1, c2]
    exact hb
set_option maxHeartbeats 8000000 in
set_option maxRecDepth 100000 in
theorem item4_good (d : ByteArray) (inc holds : Int) (has dir : Bool) (rn re rr rm : Int) (A : Option Addr) (c : Nat) (l : List S27) (vn ve vr vm nb ix tt : Int) (w : World) (hx : 0 ≤ ix ∧ ix ≤ 65535) (ht : 0 ≤ tt ∧ tt ≤ 65535) (h0 : d.size ≤ 1011) :
    Calls Try.prog 11 #[.agg #[.int .i64 4, .string d, .int .u32 inc, .int .u64 holds, .bool has, .bool dir, .int .u64 rn, .int .u64 re, .int .i64 rr, .int .u64 rm, .slice A l.length c, .int .u64 vn, .int .u64 ve, .int .i64 vr, .int .u64 vm, .int .u64 nb, .int .i64 ix, .int .i64 tt]] w fun e w' => e = .returned (.tuple #[.string (strOfNums (([] ++ Pure.putL 4 1 ++ Pure.putL nb 8 ++ Pure.putL ix 2 ++ Pure.putL tt 2) ++ bytesOf d)), .int .i64 0]) ∧ Below w.heap.size w w' := by
  have b1 : decide (ix < 0) = false := decide_eq_false (by omega)
  have b2 : decide (65535 < ix) = false := decide_eq_false (by omega)
  have b3 : decide (tt < 0) = false := decide_eq_false (by omega)
  have b4 : decide (65535 < tt) = false := decide_eq_false (by omega)
  have HWX := Aside0.mk (show IntKind.u64.wrap ix = ix by simp [IntKind.wrap, IntKind.bits, IntKind.signed]; omega)
  have HWT := Aside0.mk (show IntKind.u64.wrap tt = tt by simp [IntKind.wrap, IntKind.bits, IntKind.signed]; omega)
  clear hx ht
  have HD := Aside0.mk h0
  clear h0
  have hmf : ∀ (fn : Fn) (first cap : Array Value) (w : World), (Instr.makeFunc fn first cap).run Try.prog w = .ok (.func fn first cap) w := fun _ _ _ _ => rfl
  go_enter_defers Try.func11, Try.ntmps11
  go_wp2_with (first | ((with_reducible refine gate_dst (N := 1) rfl ?_); refine box_event ?hg (N := 1) ?hd (cs := #[.int .i64 4, .string d, .int .u32 inc, .int .u64 holds, .bool has, .bool dir, .int .u64 rn, .int .u64 re, .int .i64 rr, .int .u64 rm, .slice A l.length c, .int .u64 vn, .int .u64 ve, .int .i64 vr, .int .u64 vm, .int .u64 nb, .int .i64 ix, .int .i64 tt]) (t := 34) ?hr ?_; (case hd => rfl); (case hg => rfl); (case hr => first | (go_simp; done) | (go_simp; rfl)); intro gb hg w7 hbox hb; have HB7 := Aside0.mk hb; have HX7 := Aside0.mk hbox; have HGB := Aside0.mk hg; clear hbox hb hg; have HB1 := Aside0.mk (show Below w.heap.size w (prW w7) from below_alloc (below_alloc (below_alloc HB7.out _) _) _); have HK1 := Aside0.mk (KeepBut.refl (prW w7) (w7.heap.size + 1 + 1) none); have HX1 := Aside0.mk (show (prW w7).heap[gb]? = _ from heap_old (heap_old (heap_old HX7.out _) _) _); have HNE := Aside0.mk (show gb ≠ w7.heap.size + 1 + 1 by have := blk_lt HX7.out; omega); have HRS := Aside0.mk (show Res w (prW w7) w7.heap.size from ⟨heap_old resW_b0 _, heap_old resW_b1 _, HB7.out.size, HB1.out⟩); have HI1 := Aside0.mk (newW (w := w) (w8 := prW w7) (g := w7.heap.size + 1 + 1) (by have := HB7.out.size; omega) (by have := heap_alloc_new (resW w7) (.cells #[.slice none 0 0] 67); rwa [resW_size] at this)); have c0 := cellAt (i := 0) HX1.out rfl; have c1 := cellAt (i := 1) HX1.out rfl; have c15 := cellAt (i := 15) HX1.out rfl; have c16 := cellAt (i := 16) HX1.out rfl; have c17 := cellAt (i := 17) HX1.out rfl; ) | (go_at_call 26; (with_reducible refine (bad_no _ _).mono ?_); rintro e w_ ⟨rfl, rfl⟩) | (go_at_call 22; (with_reducible refine (writer_num' (w7.heap.size + 1 + 1) [] 4 1 1 rfl w _ HI1.out HB1.out (by (try simp only [List.length_append, Pure.putL_length, List.length_nil]); omega)).mono ?_); clear c0 c1 c15 c16 c17; rintro e w_2 ⟨rfl, hi, hb, hk⟩; have HI2 := Aside0.mk hi; have HB2 := Aside0.mk hb; have HK2 := Aside0.mk (HK1.out.trans hk (.inl rfl)); have HX2 := Aside0.mk (hk.blk HX1.out HNE.out (by simp)); have c0 := cellAt (i := 0) HX2.out rfl; have c1 := cellAt (i := 1) HX2.out rfl; have c15 := cellAt (i := 15) HX2.out rfl; have c16 := cellAt (i := 16) HX2.out rfl; have c17 := cellAt (i := 17) HX2.out rfl;  clear hi hb hk) | (go_at_call 22; (with_reducible refine (writer_num' (w7.heap.size + 1 + 1) ([] ++ Pure.putL 4 1) nb 8 8 rfl w _ HI2.out HB2.out (by (try simp only [List.length_append, Pure.putL_length, List.length_nil]); omega)).mono ?_); clear c0 c1 c15 c16 c17; rintro e w_3 ⟨rfl, hi, hb, hk⟩; have HI3 := Aside0.mk hi; have HB3 := Aside0.mk hb; have HK3 := Aside0.mk (HK2.out.trans hk (.inl rfl)); have HX3 := Aside0.mk (hk.blk HX2.out HNE.out (by simp)); have c0 := cellAt (i := 0) HX3.out rfl; have c1 := cellAt (i := 1) HX3.out rfl; have c15 := cellAt (i := 15) HX3.out rfl; have c16 := cellAt (i := 16) HX3.out rfl; have c17 := cellAt (i := 17) HX3.out rfl;  clear hi hb hk) | (go_at_call 22; (with_reducible refine (writer_num' (w7.heap.size + 1 + 1) ([] ++ Pure.putL 4 1 ++ Pure.putL nb 8) (IntKind.u64.wrap ix) 2 2 rfl w _ HI3.out HB3.out (by (try simp only [List.length_append, Pure.putL_length, List.length_nil]); omega)).mono ?_); clear c0 c1 c15 c16 c17; rintro e w_4 ⟨rfl, hi, hb, hk⟩; rw [HWX.out] at hi; have HI4 := Aside0.mk hi; have HB4 := Aside0.mk hb; have HK4 := Aside0.mk (HK3.out.trans hk (.inl rfl)); have HX4 := Aside0.mk (hk.blk HX3.out HNE.out (by simp)); have c0 := cellAt (i := 0) HX4.out rfl; have c1 := cellAt (i := 1) HX4.out rfl; have c15 := cellAt (i := 15) HX4.out rfl; have c16 := cellAt (i := 16) HX4.out rfl; have c17 := cellAt (i := 17) HX4.out rfl;  clear hi hb hk) | (go_at_call 22; (with_reducible refine (writer_num' (w7.heap.size + 1 + 1) ([] ++ Pure.putL 4 1 ++ Pure.putL nb 8 ++ Pure.putL ix 2) (IntKind.u64.wrap tt) 2 2 rfl w _ HI4.out HB4.out (by (try simp only [List.length_append, Pure.putL_length, List.length_nil]); omega)).mono ?_); clear c0 c1 c15 c16 c17; rintro e w_5 ⟨rfl, hi, hb, hk⟩; rw [HWT.out] at hi; have HI5 := Aside0.mk hi; have HB5 := Aside0.mk hb; have HK5 := Aside0.mk (HK4.out.trans hk (.inl rfl)); have HX5 := Aside0.mk (hk.blk HX4.out HNE.out (by simp)); have c0 := cellAt (i := 0) HX5.out rfl; have c1 := cellAt (i := 1) HX5.out rfl; have c15 := cellAt (i := 15) HX5.out rfl; have c16 := cellAt (i := 16) HX5.out rfl; have c17 := cellAt (i := 17) HX5.out rfl;  obtain ⟨A2, k2, hbw, hrw⟩ := HI5.out.opened; obtain ⟨XS, hXS⟩ : ∃ X, X = ([] ++ Pure.putL 4 1 ++ Pure.putL nb 8 ++ Pure.putL ix 2 ++ Pure.putL tt 2) := ⟨_, rfl⟩; rw [← hXS] at hbw hrw; have HXS := Aside0.mk hXS; have HR2 := Aside0.mk hrw; have HBW := Aside0.mk hbw; have cw := cellAt (i := 0) hbw rfl; clear hXS hbw hrw; clear hi hb hk))
  have HLX := Aside0.mk (show XS.length + d.size ≤ 140737488355328 by have hd := HD.out; rw [HXS.out]; simp only [List.length_append, Pure.putL_length, List.length_nil]; omega)
  obtain ⟨YS, hYS⟩ : ∃ Y, Y = XS ++ bytesOf d := ⟨_, rfl⟩
  have HYS := Aside0.mk hYS
  clear hYS
  go_cut [99] from 92 to 102 (fun v99 wx => Aside0 (IsW w wx (w7.heap.size + 1 + 1) YS) ∧ Aside0 (Res w wx w7.heap.size))
  case first =>
    refine wp_onlyN ?_
    go_region_law (refine step_append_str (w0 := w) w.heap.size rfl (.tmp 96) (.tmp 98) 65 9 5 rfl Try.underlying65 Try.underlying9 info5 (.slice A2 XS.length k2) XS d (by simp [Act.eval, Act.put]) (by simp [Act.eval, Act.put]) (Kd.R_drew HR2.out) (below_drew HB5.out) HB5.out.size HLX.out ?_; intro v1 w1 ho hb hg; rw [← HYS.out] at ho; obtain ⟨A1, k1, rfl⟩ := Kd.R_slice ho; have HBW1 := Aside0.mk (blk_grown (show w_5.drew.heap[w7.heap.size + 1 + 1]? = _ from HBW.out) hg (Kd.R_ne HR2.out HBW.out (by decide))); have cw1 := cellAt (i := 0) HBW1.out rfl; have fw1 := blk_frozen HBW1.out 0; have HR3 := Aside0.mk ho; have HB3_ := Aside0.mk hb; have HG3 := Aside0.mk hg; clear ho hb hg)
    all_goals
      dsimp only [OnlyN]
      go_wp2_with fail
      go_meet
      case rel => exact ⟨⟨IsW.app HBW1.out HR3.out (by have := HB7.out.size; omega)⟩, ⟨(HRS.out.keep HK5.out (by omega) HB5.out).app HR2.out HG3.out HB3_.out (by omega) _⟩⟩
  case rest =>
    obtain ⟨HI9, HRE⟩ := hcut
    obtain ⟨A9, k9, hbw, hrw⟩ := HI9.out.opened
    have b20 : decide ((1024 : Int) < (YS.length : Int)) = false := decide_eq_false (by have hd := HD.out; rw [HYS.out, HXS.out]; simp only [List.length_append, Pure.putL_length, List.length_nil, bytesOf_length]; omega)
    clear c0 c1 c15 c16 c17 cw
    have cw := cellAt (i := 0) hbw rfl
    have hcv := own_string (P := Try.prog) Try.underlying65 Try.underlying5 Try.underlying9 (Kd.own_of_R hrw)
    obtain ⟨S, hS⟩ : ∃ S, S = strOfNums YS := ⟨_, rfl⟩
    rw [← hS] at hcv
    have HS := Aside0.mk hS
    obtain ⟨⟨r0, f0⟩, ⟨r1, f1⟩⟩ := HRE.out.cells S
    clear hbw hrw hS
    go_wp2_with (first | (go_at_call 26; (with_reducible refine (bad_no _ _).mono ?_); rintro e w_ ⟨rfl, rfl⟩))
    clear r0 r1 f0 f1 hcv cw
    refine leaves_cons (f := 30) (args := #[.pointer (some ⟨w7.heap.size, 0, none⟩), .pointer (some ⟨w7.heap.size + 1, 0, none⟩)]) (by simp) (by simp [go_sem]) ?_
    refine (printItem_idle w7.heap.size (w7.heap.size + 1) _).mono ?_
    rintro e u' w'' ⟨rfl, rfl, rfl⟩
    obtain ⟨W8, h8, c1, c2, hb⟩ := HRE.out.end_ S 0
    rw [← h8]
    clear h8
    simp [Leaves, settle, results, Try.results11, go_sem, c1, c2]
    exact ⟨by rw [HS.out, HYS.out, HXS.out]; rfl, hb⟩
set_option maxHeartbeats 8000000 in
set_option maxRecDepth 100000 in
theorem item4_long (d : ByteArray) (inc holds : Int) (has dir : Bool) (rn re rr rm : Int) (A : Option Addr) (c : Nat) (l : List S27) (vn ve vr vm nb ix tt : Int) (w : World) (hx : 0 ≤ ix ∧ ix ≤ 65535) (ht : 0 ≤ tt ∧ tt ≤ 65535) (h0 : 1011 < d.size) (h1 : d.size ≤ 1000000) :
    Calls Try.prog 11 #[.agg #[.int .i64 4, .string d, .int .u32 inc, .int .u64 holds, .bool has, .bool dir, .int .u64 rn, .int .u64 re, .int .i64 rr, .int .u64 rm, .slice A l.length c, .int .u64 vn, .int .u64 ve, .int .i64 vr, .int .u64 vm, .int .u64 nb, .int .i64 ix, .int .i64 tt]] w fun e w' => e = .returned (.tuple #[.string ⟨#[]⟩, .int .i64 3]) ∧ Below w.heap.size w w' := by
  have b1 : decide (ix < 0) = false := decide_eq_false (by omega)
  have b2 : decide (65535 < ix) = false := decide_eq_false (by omega)
  have b3 : decide (tt < 0) = false := decide_eq_false (by omega)
  have b4 : decide (65535 < tt) = false := decide_eq_false (by omega)
  have HWX := Aside0.mk (show IntKind.u64.wrap ix = ix by simp [IntKind.wrap, IntKind.bits, IntKind.signed]; omega)
  have HWT := Aside0.mk (show IntKind.u64.wrap tt = tt by simp [IntKind.wrap, IntKind.bits, IntKind.signed]; omega)
  clear hx ht
  have HD := Aside0.mk (show 1024 < 13 + d.size ∧ d.size ≤ 1000000 from ⟨by omega, h1⟩)
  clear h0 h1
  have hmf : ∀ (fn : Fn) (first cap : Array Value) (w : World), (Instr.makeFunc fn first cap).run Try.prog w = .ok (.func fn first cap) w := fun _ _ _ _ => rfl
  go_enter_defers Try.func11, Try.ntmps11
  go_wp2_with (first | ((with_reducible refine gate_dst (N := 1) rfl ?_); refine box_event ?hg (N := 1) ?hd (cs := #[.int .i64 4, .string d, .int .u32 inc, .int .u64 holds, .bool has, .bool dir, .int .u64 rn, .int .u64 re, .int .i64 rr, .int .u64 rm, .slice A l.length c, .int .u64 vn, .int .u64 ve, .int .i64 vr, .int .u64 vm, .int .u64 nb, .int .i64 ix, .int .i64 tt]) (t := 34) ?hr ?_; (case hd => rfl); (case hg => rfl); (case hr => first | (go_simp; done) | (go_simp; rfl)); intro gb hg w7 hbox hb; have HB7 := Aside0.mk hb; have HX7 := Aside0.mk hbox; have HGB := Aside0.mk hg; clear hbox hb hg; have HB1 := Aside0.mk (show Below w.heap.size w (prW w7) from below_alloc (below_alloc (below_alloc HB7.out _) _) _); have HK1 := Aside0.mk (KeepBut.refl (prW w7) (w7.heap.size + 1 + 1) none); have HX1 := Aside0.mk (show (prW w7).heap[gb]? = _ from heap_old (heap_old (heap_old HX7.out _) _) _); have HNE := Aside0.mk (show gb ≠ w7.heap.size + 1 + 1 by have := blk_lt HX7.out; omega); have HRS := Aside0.mk (show Res w (prW w7) w7.heap.size from ⟨heap_old resW_b0 _, heap_old resW_b1 _, HB7.out.size, HB1.out⟩); have HI1 := Aside0.mk (newW (w := w) (w8 := prW w7) (g := w7.heap.size + 1 + 1) (by have := HB7.out.size; omega) (by have := heap_alloc_new (resW w7) (.cells #[.slice none 0 0] 67); rwa [resW_size] at this)); have c0 := cellAt (i := 0) HX1.out rfl; have c1 := cellAt (i := 1) HX1.out rfl; have c15 := cellAt (i := 15) HX1.out rfl; have c16 := cellAt (i := 16) HX1.out rfl; have c17 := cellAt (i := 17) HX1.out rfl; ) | (go_at_call 26; (with_reducible refine (bad_no _ _).mono ?_); rintro e w_ ⟨rfl, rfl⟩) | (go_at_call 22; (with_reducible refine (writer_num' (w7.heap.size + 1 + 1) [] 4 1 1 rfl w _ HI1.out HB1.out (by (try simp only [List.length_append, Pure.putL_length, List.length_nil]); omega)).mono ?_); clear c0 c1 c15 c16 c17; rintro e w_2 ⟨rfl, hi, hb, hk⟩; have HI2 := Aside0.mk hi; have HB2 := Aside0.mk hb; have HK2 := Aside0.mk (HK1.out.trans hk (.inl rfl)); have HX2 := Aside0.mk (hk.blk HX1.out HNE.out (by simp)); have c0 := cellAt (i := 0) HX2.out rfl; have c1 := cellAt (i := 1) HX2.out rfl; have c15 := cellAt (i := 15) HX2.out rfl; have c16 := cellAt (i := 16) HX2.out rfl; have c17 := cellAt (i := 17) HX2.out rfl;  clear hi hb hk) | (go_at_call 22; (with_reducible refine (writer_num' (w7.heap.size + 1 + 1) ([] ++ Pure.putL 4 1) nb 8 8 rfl w _ HI2.out HB2.out (by (try simp only [List.length_append, Pure.putL_length, List.length_nil]); omega)).mono ?_); clear c0 c1 c15 c16 c17; rintro e w_3 ⟨rfl, hi, hb, hk⟩; have HI3 := Aside0.mk hi; have HB3 := Aside0.mk hb; have HK3 := Aside0.mk (HK2.out.trans hk (.inl rfl)); have HX3 := Aside0.mk (hk.blk HX2.out HNE.out (by simp)); have c0 := cellAt (i := 0) HX3.out rfl; have c1 := cellAt (i := 1) HX3.out rfl; have c15 := cellAt (i := 15) HX3.out rfl; have c16 := cellAt (i := 16) HX3.out rfl; have c17 := cellAt (i := 17) HX3.out rfl;  clear hi hb hk) | (go_at_call 22; (with_reducible refine (writer_num' (w7.heap.size + 1 + 1) ([] ++ Pure.putL 4 1 ++ Pure.putL nb 8) (IntKind.u64.wrap ix) 2 2 rfl w _ HI3.out HB3.out (by (try simp only [List.length_append, Pure.putL_length, List.length_nil]); omega)).mono ?_); clear c0 c1 c15 c16 c17; rintro e w_4 ⟨rfl, hi, hb, hk⟩; rw [HWX.out] at hi; have HI4 := Aside0.mk hi; have HB4 := Aside0.mk hb; have HK4 := Aside0.mk (HK3.out.trans hk (.inl rfl)); have HX4 := Aside0.mk (hk.blk HX3.out HNE.out (by simp)); have c0 := cellAt (i := 0) HX4.out rfl; have c1 := cellAt (i := 1) HX4.out rfl; have c15 := cellAt (i := 15) HX4.out rfl; have c16 := cellAt (i := 16) HX4.out rfl; have c17 := cellAt (i := 17) HX4.out rfl;  clear hi hb hk) | (go_at_call 22; (with_reducible refine (writer_num' (w7.heap.size + 1 + 1) ([] ++ Pure.putL 4 1 ++ Pure.putL nb 8 ++ Pure.putL ix 2) (IntKind.u64.wrap tt) 2 2 rfl w _ HI4.out HB4.out (by (try simp only [List.length_append, Pure.putL_length, List.length_nil]); omega)).mono ?_); clear c0 c1 c15 c16 c17; rintro e w_5 ⟨rfl, hi, hb, hk⟩; rw [HWT.out] at hi; have HI5 := Aside0.mk hi; have HB5 := Aside0.mk hb; have HK5 := Aside0.mk (HK4.out.trans hk (.inl rfl)); have HX5 := Aside0.mk (hk.blk HX4.out HNE.out (by simp)); have c0 := cellAt (i := 0) HX5.out rfl; have c1 := cellAt (i := 1) HX5.out rfl; have c15 := cellAt (i := 15) HX5.out rfl; have c16 := cellAt (i := 16) HX5.out rfl; have c17 := cellAt (i := 17) HX5.out rfl;  obtain ⟨A2, k2, hbw, hrw⟩ := HI5.out.opened; obtain ⟨XS, hXS⟩ : ∃ X, X = ([] ++ Pure.putL 4 1 ++ Pure.putL nb 8 ++ Pure.putL ix 2 ++ Pure.putL tt 2) := ⟨_, rfl⟩; rw [← hXS] at hbw hrw; have HXS := Aside0.mk hXS; have HR2 := Aside0.mk hrw; have HBW := Aside0.mk hbw; have cw := cellAt (i := 0) hbw rfl; clear hXS hbw hrw; clear hi hb hk))
  have HLX := Aside0.mk (show XS.length + d.size ≤ 140737488355328 by have hd := HD.out; rw [HXS.out]; simp only [List.length_append, Pure.putL_length, List.length_nil]; omega)
  obtain ⟨YS, hYS⟩ : ∃ Y, Y = XS ++ bytesOf d := ⟨_, rfl⟩
  have HYS := Aside0.mk hYS
  clear hYS
  go_cut [99] from 92 to 102 (fun v99 wx => Aside0 (IsW w wx (w7.heap.size + 1 + 1) YS) ∧ Aside0 (Res w wx w7.heap.size))
  case first =>
    refine wp_onlyN ?_
    go_region_law (refine step_append_str (w0 := w) w.heap.size rfl (.tmp 96) (.tmp 98) 65 9 5 rfl Try.underlying65 Try.underlying9 info5 (.slice A2 XS.length k2) XS d (by simp [Act.eval, Act.put]) (by simp [Act.eval, Act.put]) (Kd.R_drew HR2.out) (below_drew HB5.out) HB5.out.size HLX.out ?_; intro v1 w1 ho hb hg; rw [← HYS.out] at ho; obtain ⟨A1, k1, rfl⟩ := Kd.R_slice ho; have HBW1 := Aside0.mk (blk_grown (show w_5.drew.heap[w7.heap.size + 1 + 1]? = _ from HBW.out) hg (Kd.R_ne HR2.out HBW.out (by decide))); have cw1 := cellAt (i := 0) HBW1.out rfl; have fw1 := blk_frozen HBW1.out 0; have HR3 := Aside0.mk ho; have HB3_ := Aside0.mk hb; have HG3 := Aside0.mk hg; clear ho hb hg)
    all_goals
      dsimp only [OnlyN]
      go_wp2_with fail
      go_meet
      case rel => exact ⟨⟨IsW.app HBW1.out HR3.out (by have := HB7.out.size; omega)⟩, ⟨(HRS.out.keep HK5.out (by omega) HB5.out).app HR2.out HG3.out HB3_.out (by omega) _⟩⟩
  case rest =>
    obtain ⟨HI9, HRE⟩ := hcut
    obtain ⟨A9, k9, hbw, hrw⟩ := HI9.out.opened
    have b20 : decide ((1024 : Int) < (YS.length : Int)) = true := decide_eq_true (by have hd := HD.out; rw [HYS.out, HXS.out]; simp only [List.length_append, Pure.putL_length, List.length_nil, bytesOf_length]; omega)
    clear c0 c1 c15 c16 c17 cw
    have cw := cellAt (i := 0) hbw rfl
    clear hbw hrw
    go_wp2_with (go_at_call 26; (with_reducible refine (bad_yes 3 _).mono ?_); rintro e w_ ⟨rfl, rfl⟩)
    clear cw
    refine leaves_cons (f := 30) (args := #[.pointer (some ⟨w7.heap.size, 0, none⟩), .pointer (some ⟨w7.heap.size + 1, 0, none⟩)]) (by simp) (by simp [go_sem]) ?_
    refine (printItem_catch w7.heap.size (w7.heap.size + 1) ⟨#[]⟩ 0 3 (by decide) _ HRE.out.b0 HRE.out.b1).mono ?_
    rintro e u' w'' ⟨rfl, rfl, rfl⟩
    obtain ⟨W8, h8, c1, c2, hb⟩ := HRE.out.end_ ⟨#[]⟩ 3
    rw [← h8]
    clear h8
    simp [Leaves, settle, results, Try.results11, go_sem, c1, c2]
    exact hb
set_option maxHeartbeats 8000000 in
set_option maxRecDepth 100000 in
theorem item4_ixlo (d : ByteArray) (inc holds : Int) (has dir : Bool) (rn re rr rm : Int) (A : Option Addr) (c : Nat) (l : List S27) (vn ve vr vm nb ix tt : Int) (w : World) (h0 : ix < 0) :
    Calls Try.prog 11 #[.agg #[.int .i64 4, .string d, .int .u32 inc, .int .u64 holds, .bool has, .bool dir, .int .u64 rn, .int .u64 re, .int .i64 rr, .int .u64 rm, .slice A l.length c, .int .u64 vn, .int .u64 ve, .int .i64 vr, .int .u64 vm, .int .u64 nb, .int .i64 ix, .int .i64 tt]] w fun e w' => e = .returned (.tuple #[.string ⟨#[]⟩, .int .i64 1]) ∧ Below w.heap.size w w' := by
  have b0 : decide (ix < 0) = true := decide_eq_true (by omega)
  clear h0
  have hmf : ∀ (fn : Fn) (first cap : Array Value) (w : World), (Instr.makeFunc fn first cap).run Try.prog w = .ok (.func fn first cap) w := fun _ _ _ _ => rfl
  go_enter_defers Try.func11, Try.ntmps11
  go_wp2_with (first | ((with_reducible refine gate_dst (N := 1) rfl ?_); refine box_event ?hg (N := 1) ?hd (cs := #[.int .i64 4, .string d, .int .u32 inc, .int .u64 holds, .bool has, .bool dir, .int .u64 rn, .int .u64 re, .int .i64 rr, .int .u64 rm, .slice A l.length c, .int .u64 vn, .int .u64 ve, .int .i64 vr, .int .u64 vm, .int .u64 nb, .int .i64 ix, .int .i64 tt]) (t := 34) ?hr ?_; (case hd => rfl); (case hg => rfl); (case hr => first | (go_simp; done) | (go_simp; rfl)); intro gb hg w7 hbox hb; have HB7 := Aside0.mk hb; have HX7 := Aside0.mk hbox; have HGB := Aside0.mk hg; clear hbox hb hg; have HB1 := Aside0.mk (show Below w.heap.size w (prW w7) from below_alloc (below_alloc (below_alloc HB7.out _) _) _); have HK1 := Aside0.mk (KeepBut.refl (prW w7) (w7.heap.size + 1 + 1) none); have HX1 := Aside0.mk (show (prW w7).heap[gb]? = _ from heap_old (heap_old (heap_old HX7.out _) _) _); have HNE := Aside0.mk (show gb ≠ w7.heap.size + 1 + 1 by have := blk_lt HX7.out; omega); have HRS := Aside0.mk (show Res w (prW w7) w7.heap.size from ⟨heap_old resW_b0 _, heap_old resW_b1 _, HB7.out.size, HB1.out⟩); have HI1 := Aside0.mk (newW (w := w) (w8 := prW w7) (g := w7.heap.size + 1 + 1) (by have := HB7.out.size; omega) (by have := heap_alloc_new (resW w7) (.cells #[.slice none 0 0] 67); rwa [resW_size] at this)); have c0 := cellAt (i := 0) HX1.out rfl; have c1 := cellAt (i := 1) HX1.out rfl; have c15 := cellAt (i := 15) HX1.out rfl; have c16 := cellAt (i := 16) HX1.out rfl; have c17 := cellAt (i := 17) HX1.out rfl; ) | (go_at_call 26; (with_reducible refine (bad_no 10 _).mono ?_); rintro e w_ ⟨rfl, rfl⟩) | (go_at_call 22; (with_reducible refine (writer_num' (w7.heap.size + 1 + 1) [] 4 1 1 rfl w _ HI1.out HB1.out (by (try simp only [List.length_append, Pure.putL_length, List.length_nil]); omega)).mono ?_); clear c0 c1 c15 c16 c17; rintro e w_2 ⟨rfl, hi, hb, hk⟩; have HI2 := Aside0.mk hi; have HB2 := Aside0.mk hb; have HK2 := Aside0.mk (HK1.out.trans hk (.inl rfl)); have HX2 := Aside0.mk (hk.blk HX1.out HNE.out (by simp)); have c0 := cellAt (i := 0) HX2.out rfl; have c1 := cellAt (i := 1) HX2.out rfl; have c15 := cellAt (i := 15) HX2.out rfl; have c16 := cellAt (i := 16) HX2.out rfl; have c17 := cellAt (i := 17) HX2.out rfl;  clear hi hb hk) | (go_at_call 26; (with_reducible refine (bad_yes 1 _).mono ?_); clear c0 c1 c15 c16 c17; rintro e w_ ⟨rfl, rfl⟩; have HRE := Aside0.mk (HRS.out.keep HK2.out (by omega) HB2.out)))
  refine leaves_cons (f := 30) (args := #[.pointer (some ⟨w7.heap.size, 0, none⟩), .pointer (some ⟨w7.heap.size + 1, 0, none⟩)]) (by simp) (by simp [go_sem]) ?_
  refine (printItem_catch w7.heap.size (w7.heap.size + 1) ⟨#[]⟩ 0 1 (by decide) _ HRE.out.b0 HRE.out.b1).mono ?_
  rintro e u' w'' ⟨rfl, rfl, rfl⟩
  obtain ⟨W8, h8, c1, c2, hb⟩ := HRE.out.end_ ⟨#[]⟩ 1
  rw [← h8]
  clear h8
  simp [Leaves, settle, results, Try.results11, go_sem, c1, c2]
  exact hb
set_option maxHeartbeats 8000000 in
set_option maxRecDepth 100000 in
theorem item4_ixhi (d : ByteArray) (inc holds : Int) (has dir : Bool) (rn re rr rm : Int) (A : Option Addr) (c : Nat) (l : List S27) (vn ve vr vm nb ix tt : Int) (w : World) (h0 : 65535 < ix) :
    Calls Try.prog 11 #[.agg #[.int .i64 4, .string d, .int .u32 inc, .int .u64 holds, .bool has, .bool dir, .int .u64 rn, .int .u64 re, .int .i64 rr, .int .u64 rm, .slice A l.length c, .int .u64 vn, .int .u64 ve, .int .i64 vr, .int .u64 vm, .int .u64 nb, .int .i64 ix, .int .i64 tt]] w fun e w' => e = .returned (.tuple #[.string ⟨#[]⟩, .int .i64 1]) ∧ Below w.heap.size w w' := by
  have b0 : decide (ix < 0) = false := decide_eq_false (by omega)
  have b1 : decide (65535 < ix) = true := decide_eq_true (by omega)
  clear h0
  have hmf : ∀ (fn : Fn) (first cap : Array Value) (w : World), (Instr.makeFunc fn first cap).run Try.prog w = .ok (.func fn first cap) w := fun _ _ _ _ => rfl
  go_enter_defers Try.func11, Try.ntmps11
  go_wp2_with (first | ((with_reducible refine gate_dst (N := 1) rfl ?_); refine box_event ?hg (N := 1) ?hd (cs := #[.int .i64 4, .string d, .int .u32 inc, .int .u64 holds, .bool has, .bool dir, .int .u64 rn, .int .u64 re, .int .i64 rr, .int .u64 rm, .slice A l.length c, .int .u64 vn, .int .u64 ve, .int .i64 vr, .int .u64 vm, .int .u64 nb, .int .i64 ix, .int .i64 tt]) (t := 34) ?hr ?_; (case hd => rfl); (case hg => rfl); (case hr => first | (go_simp; done) | (go_simp; rfl)); intro gb hg w7 hbox hb; have HB7 := Aside0.mk hb; have HX7 := Aside0.mk hbox; have HGB := Aside0.mk hg; clear hbox hb hg; have HB1 := Aside0.mk (show Below w.heap.size w (prW w7) from below_alloc (below_alloc (below_alloc HB7.out _) _) _); have HK1 := Aside0.mk (KeepBut.refl (prW w7) (w7.heap.size + 1 + 1) none); have HX1 := Aside0.mk (show (prW w7).heap[gb]? = _ from heap_old (heap_old (heap_old HX7.out _) _) _); have HNE := Aside0.mk (show gb ≠ w7.heap.size + 1 + 1 by have := blk_lt HX7.out; omega); have HRS := Aside0.mk (show Res w (prW w7) w7.heap.size from ⟨heap_old resW_b0 _, heap_old resW_b1 _, HB7.out.size, HB1.out⟩); have HI1 := Aside0.mk (newW (w := w) (w8 := prW w7) (g := w7.heap.size + 1 + 1) (by have := HB7.out.size; omega) (by have := heap_alloc_new (resW w7) (.cells #[.slice none 0 0] 67); rwa [resW_size] at this)); have c0 := cellAt (i := 0) HX1.out rfl; have c1 := cellAt (i := 1) HX1.out rfl; have c15 := cellAt (i := 15) HX1.out rfl; have c16 := cellAt (i := 16) HX1.out rfl; have c17 := cellAt (i := 17) HX1.out rfl; ) | (go_at_call 26; (with_reducible refine (bad_no 10 _).mono ?_); rintro e w_ ⟨rfl, rfl⟩) | (go_at_call 22; (with_reducible refine (writer_num' (w7.heap.size + 1 + 1) [] 4 1 1 rfl w _ HI1.out HB1.out (by (try simp only [List.length_append, Pure.putL_length, List.length_nil]); omega)).mono ?_); clear c0 c1 c15 c16 c17; rintro e w_2 ⟨rfl, hi, hb, hk⟩; have HI2 := Aside0.mk hi; have HB2 := Aside0.mk hb; have HK2 := Aside0.mk (HK1.out.trans hk (.inl rfl)); have HX2 := Aside0.mk (hk.blk HX1.out HNE.out (by simp)); have c0 := cellAt (i := 0) HX2.out rfl; have c1 := cellAt (i := 1) HX2.out rfl; have c15 := cellAt (i := 15) HX2.out rfl; have c16 := cellAt (i := 16) HX2.out rfl; have c17 := cellAt (i := 17) HX2.out rfl;  clear hi hb hk) | (go_at_call 26; (with_reducible refine (bad_yes 1 _).mono ?_); clear c0 c1 c15 c16 c17; rintro e w_ ⟨rfl, rfl⟩; have HRE := Aside0.mk (HRS.out.keep HK2.out (by omega) HB2.out)))
  refine leaves_cons (f := 30) (args := #[.pointer (some ⟨w7.heap.size, 0, none⟩), .pointer (some ⟨w7.heap.size + 1, 0, none⟩)]) (by simp) (by simp [go_sem]) ?_
  refine (printItem_catch w7.heap.size (w7.heap.size + 1) ⟨#[]⟩ 0 1 (by decide) _ HRE.out.b0 HRE.out.b1).mono ?_
  rintro e u' w'' ⟨rfl, rfl, rfl⟩
  obtain ⟨W8, h8, c1, c2, hb⟩ := HRE.out.end_ ⟨#[]⟩ 1
  rw [← h8]
  clear h8
  simp [Leaves, settle, results, Try.results11, go_sem, c1, c2]
  exact hb
set_option maxHeartbeats 8000000 in
set_option maxRecDepth 100000 in
theorem item4_ttlo (d : ByteArray) (inc holds : Int) (has dir : Bool) (rn re rr rm : Int) (A : Option Addr) (c : Nat) (l : List S27) (vn ve vr vm nb ix tt : Int) (w : World) (hx : 0 ≤ ix ∧ ix ≤ 65535) (h0 : tt < 0) :
    Calls Try.prog 11 #[.agg #[.int .i64 4, .string d, .int .u32 inc, .int .u64 holds, .bool has, .bool dir, .int .u64 rn, .int .u64 re, .int .i64 rr, .int .u64 rm, .slice A l.length c, .int .u64 vn, .int .u64 ve, .int .i64 vr, .int .u64 vm, .int .u64 nb, .int .i64 ix, .int .i64 tt]] w fun e w' => e = .returned (.tuple #[.string ⟨#[]⟩, .int .i64 1]) ∧ Below w.heap.size w w' := by
  have b0 : decide (ix < 0) = false := decide_eq_false (by omega)
  have b1 : decide (65535 < ix) = false := decide_eq_false (by omega)
  have b2 : decide (tt < 0) = true := decide_eq_true (by omega)
  clear h0 hx
  have hmf : ∀ (fn : Fn) (first cap : Array Value) (w : World), (Instr.makeFunc fn first cap).run Try.prog w = .ok (.func fn first cap) w := fun _ _ _ _ => rfl
  go_enter_defers Try.func11, Try.ntmps11
  go_wp2_with (first | ((with_reducible refine gate_dst (N := 1) rfl ?_); refine box_event ?hg (N := 1) ?hd (cs := #[.int .i64 4, .string d, .int .u32 inc, .int .u64 holds, .bool has, .bool dir, .int .u64 rn, .int .u64 re, .int .i64 rr, .int .u64 rm, .slice A l.length c, .int .u64 vn, .int .u64 ve, .int .i64 vr, .int .u64 vm, .int .u64 nb, .int .i64 ix, .int .i64 tt]) (t := 34) ?hr ?_; (case hd => rfl); (case hg => rfl); (case hr => first | (go_simp; done) | (go_simp; rfl)); intro gb hg w7 hbox hb; have HB7 := Aside0.mk hb; have HX7 := Aside0.mk hbox; have HGB := Aside0.mk hg; clear hbox hb hg; have HB1 := Aside0.mk (show Below w.heap.size w (prW w7) from below_alloc (below_alloc (below_alloc HB7.out _) _) _); have HK1 := Aside0.mk (KeepBut.refl (prW w7) (w7.heap.size + 1 + 1) none); have HX1 := Aside0.mk (show (prW w7).heap[gb]? = _ from heap_old (heap_old (heap_old HX7.out _) _) _); have HNE := Aside0.mk (show gb ≠ w7.heap.size + 1 + 1 by have := blk_lt HX7.out; omega); have HRS := Aside0.mk (show Res w (prW w7) w7.heap.size from ⟨heap_old resW_b0 _, heap_old resW_b1 _, HB7.out.size, HB1.out⟩); have HI1 := Aside0.mk (newW (w := w) (w8 := prW w7) (g := w7.heap.size + 1 + 1) (by have := HB7.out.size; omega) (by have := heap_alloc_new (resW w7) (.cells #[.slice none 0 0] 67); rwa [resW_size] at this)); have c0 := cellAt (i := 0) HX1.out rfl; have c1 := cellAt (i := 1) HX1.out rfl; have c15 := cellAt (i := 15) HX1.out rfl; have c16 := cellAt (i := 16) HX1.out rfl; have c17 := cellAt (i := 17) HX1.out rfl; ) | (go_at_call 26; (with_reducible refine (bad_no 10 _).mono ?_); rintro e w_ ⟨rfl, rfl⟩) | (go_at_call 22; (with_reducible refine (writer_num' (w7.heap.size + 1 + 1) [] 4 1 1 rfl w _ HI1.out HB1.out (by (try simp only [List.length_append, Pure.putL_length, List.length_nil]); omega)).mono ?_); clear c0 c1 c15 c16 c17; rintro e w_2 ⟨rfl, hi, hb, hk⟩; have HI2 := Aside0.mk hi; have HB2 := Aside0.mk hb; have HK2 := Aside0.mk (HK1.out.trans hk (.inl rfl)); have HX2 := Aside0.mk (hk.blk HX1.out HNE.out (by simp)); have c0 := cellAt (i := 0) HX2.out rfl; have c1 := cellAt (i := 1) HX2.out rfl; have c15 := cellAt (i := 15) HX2.out rfl; have c16 := cellAt (i := 16) HX2.out rfl; have c17 := cellAt (i := 17) HX2.out rfl;  clear hi hb hk) | (go_at_call 26; (with_reducible refine (bad_yes 1 _).mono ?_); clear c0 c1 c15 c16 c17; rintro e w_ ⟨rfl, rfl⟩; have HRE := Aside0.mk (HRS.out.keep HK2.out (by omega) HB2.out)))
  refine leaves_cons (f := 30) (args := #[.pointer (some ⟨w7.heap.size, 0, none⟩), .pointer (some ⟨w7.heap.size + 1, 0, none⟩)]) (by simp) (by simp [go_sem]) ?_
  refine (printItem_catch w7.heap.size (w7.heap.size + 1) ⟨#[]⟩ 0 1 (by decide) _ HRE.out.b0 HRE.out.b1).mono ?_
  rintro e u' w'' ⟨rfl, rfl, rfl⟩
  obtain ⟨W8, h8, c1, c2, hb⟩ := HRE.out.end_ ⟨#[]⟩ 1
  rw [← h8]
  clear h8
  simp [Leaves, settle, results, Try.results11, go_sem, c1, c2]
  exact hb
set_option maxHeartbeats 8000000 in
set_option maxRecDepth 100000 in
theorem item4_tthi (d : ByteArray) (inc holds : Int) (has dir : Bool) (rn re rr rm : Int) (A : Option Addr) (c : Nat) (l : List S27) (vn ve vr vm nb ix tt : Int) (w : World) (hx : 0 ≤ ix ∧ ix ≤ 65535) (h0 : 65535 < tt) :
    Calls Try.prog 11 #[.agg #[.int .i64 4, .string d, .int .u32 inc, .int .u64 holds, .bool has, .bool dir, .int .u64 rn, .int .u64 re, .int .i64 rr, .int .u64 rm, .slice A l.length c, .int .u64 vn, .int .u64 ve, .int .i64 vr, .int .u64 vm, .int .u64 nb, .int .i64 ix, .int .i64 tt]] w fun e w' => e = .returned (.tuple #[.string ⟨#[]⟩, .int .i64 1]) ∧ Below w.heap.size w w' := by
  have b0 : decide (ix < 0) = false := decide_eq_false (by omega)
  have b1 : decide (65535 < ix) = false := decide_eq_false (by omega)
  have b2 : decide (tt < 0) = false := decide_eq_false (by omega)
  have b3 : decide (65535 < tt) = true := decide_eq_true (by omega)
  clear h0 hx
  have hmf : ∀ (fn : Fn) (first cap : Array Value) (w : World), (Instr.makeFunc fn first cap).run Try.prog w = .ok (.func fn first cap) w := fun _ _ _ _ => rfl
  go_enter_defers Try.func11, Try.ntmps11
  go_wp2_with (first | ((with_reducible refine gate_dst (N := 1) rfl ?_); refine box_event ?hg (N := 1) ?hd (cs := #[.int .i64 4, .string d, .int .u32 inc, .int .u64 holds, .bool has, .bool dir, .int .u64 rn, .int .u64 re, .int .i64 rr, .int .u64 rm, .slice A l.length c, .int .u64 vn, .int .u64 ve, .int .i64 vr, .int .u64 vm, .int .u64 nb, .int .i64 ix, .int .i64 tt]) (t := 34) ?hr ?_; (case hd => rfl); (case hg => rfl); (case hr => first | (go_simp; done) | (go_simp; rfl)); intro gb hg w7 hbox hb; have HB7 := Aside0.mk hb; have HX7 := Aside0.mk hbox; have HGB := Aside0.mk hg; clear hbox hb hg; have HB1 := Aside0.mk (show Below w.heap.size w (prW w7) from below_alloc (below_alloc (below_alloc HB7.out _) _) _); have HK1 := Aside0.mk (KeepBut.refl (prW w7) (w7.heap.size + 1 + 1) none); have HX1 := Aside0.mk (show (prW w7).heap[gb]? = _ from heap_old (heap_old (heap_old HX7.out _) _) _); have HNE := Aside0.mk (show gb ≠ w7.heap.size + 1 + 1 by have := blk_lt HX7.out; omega); have HRS := Aside0.mk (show Res w (prW w7) w7.heap.size from ⟨heap_old resW_b0 _, heap_old resW_b1 _, HB7.out.size, HB1.out⟩); have HI1 := Aside0.mk (newW (w := w) (w8 := prW w7) (g := w7.heap.size + 1 + 1) (by have := HB7.out.size; omega) (by have := heap_alloc_new (resW w7) (.cells #[.slice none 0 0] 67); rwa [resW_size] at this)); have c0 := cellAt (i := 0) HX1.out rfl; have c1 := cellAt (i := 1) HX1.out rfl; have c15 := cellAt (i := 15) HX1.out rfl; have c16 := cellAt (i := 16) HX1.out rfl; have c17 := cellAt (i := 17) HX1.out rfl; ) | (go_at_call 26; (with_reducible refine (bad_no 10 _).mono ?_); rintro e w_ ⟨rfl, rfl⟩) | (go_at_call 22; (with_reducible refine (writer_num' (w7.heap.size + 1 + 1) [] 4 1 1 rfl w _ HI1.out HB1.out (by (try simp only [List.length_append, Pure.putL_length, List.length_nil]); omega)).mono ?_); clear c0 c1 c15 c16 c17; rintro e w_2 ⟨rfl, hi, hb, hk⟩; have HI2 := Aside0.mk hi; have HB2 := Aside0.mk hb; have HK2 := Aside0.mk (HK1.out.trans hk (.inl rfl)); have HX2 := Aside0.mk (hk.blk HX1.out HNE.out (by simp)); have c0 := cellAt (i := 0) HX2.out rfl; have c1 := cellAt (i := 1) HX2.out rfl; have c15 := cellAt (i := 15) HX2.out rfl; have c16 := cellAt (i := 16) HX2.out rfl; have c17 := cellAt (i := 17) HX2.out rfl;  clear hi hb hk) | (go_at_call 26; (with_reducible refine (bad_yes 1 _).mono ?_); clear c0 c1 c15 c16 c17; rintro e w_ ⟨rfl, rfl⟩; have HRE := Aside0.mk (HRS.out.keep HK2.out (by omega) HB2.out)))
  refine leaves_cons (f := 30) (args := #[.pointer (some ⟨w7.heap.size, 0, none⟩), .pointer (some ⟨w7.heap.size + 1, 0, none⟩)]) (by simp) (by simp [go_sem]) ?_
  refine (printItem_catch w7.heap.size (w7.heap.size + 1) ⟨#[]⟩ 0 1 (by decide) _ HRE.out.b0 HRE.out.b1).mono ?_
  rintro e u' w'' ⟨rfl, rfl, rfl⟩
  obtain ⟨W8, h8, c1, c2, hb⟩ := HRE.out.end_ ⟨#[]⟩ 1
  rw [← h8]
  clear h8
  simp [Leaves, settle, results, Try.results11, go_sem, c1, c2]
  exact hb
end Go.Proofs.Ytlkemknhmfjdpaa.P
/- PrintItem's contract, whole. -/
namespace Go.Proofs.Ytlkemknhmfjdpaa.P
open Go.RowKit Go.Proofs.YtlkemknhmfjdpaaW.PrintWords Go.Proofs.YtlkemknhmfjdpaaW.PrintLast Go.Proofs.YtlkemknhmfjdpaaW.PrintMore
set_option linter.unusedVariables false
set_option linter.unusedSimpArgs false

/-- What PrintItem answers. -/
def logItem (k : Int) (d : ByteArray) (inc holds : Int) (has dir : Bool) (rn re rr rm : Int) (l : List S27) (vn ve vr vm nb ix tt : Int) : ByteArray × Int :=
  if k < 1 then (⟨#[]⟩, 10) else if 4 < k then (⟨#[]⟩, 10)
  else if k = 1 then (if d.size ≤ 1023 then (strOfNums (([] ++ Pure.putL 1 1) ++ bytesOf d), 0) else (⟨#[]⟩, 3))
  else if k = 2 then (if rr < 0 ∨ 64 ≤ rr then (⟨#[]⟩, 1) else if 32 < l.length then (⟨#[]⟩, 3) else if ∀ x ∈ l, sOk x then (strOfNums (([] ++ Pure.putL 2 1 ++ Pure.putL inc 4 ++ Pure.putL holds 8 ++ Pure.putL (flagsN has dir) 1) ++ recB rn re rr rm l), 0) else (⟨#[]⟩, 1))
  else if k = 3 then (if vr < 0 ∨ 64 ≤ vr then (⟨#[]⟩, 1) else (strOfNums (([] ++ Pure.putL 3 1) ++ vB vn ve vr vm), 0))
  else (if ix < 0 ∨ 65535 < ix ∨ tt < 0 ∨ 65535 < tt then (⟨#[]⟩, 1) else if d.size ≤ 1011 then (strOfNums (([] ++ Pure.putL 4 1 ++ Pure.putL nb 8 ++ Pure.putL ix 2 ++ Pure.putL tt 2) ++ bytesOf d), 0) else (⟨#[]⟩, 3))
def log_PrintItem.f (a0_0 : Int) (a0_1 : ByteArray) (a0_2 a0_3 : Int) (a0_4 a0_5 : Bool) (a0_6 a0_7 a0_8 a0_9 : Int) (l0_10 : List S27) (a0_11 a0_12 a0_13 a0_14 a0_15 a0_16 a0_17 : Int) : Option (ByteArray × Int) :=
  if (0 ≤ a0_2 ∧ a0_2 ≤ 4294967295) ∧ a0_1.size ≤ 1000000 then some (logItem a0_0 a0_1 a0_2 a0_3 a0_4 a0_5 a0_6 a0_7 a0_8 a0_9 l0_10 a0_11 a0_12 a0_13 a0_14 a0_15 a0_16 a0_17) else none
theorem log_PrintItem.calls (a0_0 : Int) (a0_1 : ByteArray) (a0_2 a0_3 : Int) (a0_4 a0_5 : Bool) (a0_6 a0_7 a0_8 a0_9 : Int) (A0_10 : Option Addr) (c0_10 : Nat) (l0_10 : List S27) (a0_11 a0_12 a0_13 a0_14 a0_15 a0_16 a0_17 : Int) (r1 : ByteArray) (r2 : Int) (w : World)
    (hr0_10 : Kd.C k27 w A0_10 l0_10.length l0_10) (hc0_10 : l0_10.length ≤ c0_10) (h : log_PrintItem.f a0_0 a0_1 a0_2 a0_3 a0_4 a0_5 a0_6 a0_7 a0_8 a0_9 l0_10 a0_11 a0_12 a0_13 a0_14 a0_15 a0_16 a0_17 = some (r1, r2)) :
    Calls Try.prog 11 #[.agg #[.int .i64 a0_0, .string a0_1, .int .u32 a0_2, .int .u64 a0_3, .bool a0_4, .bool a0_5, .int .u64 a0_6, .int .u64 a0_7, .int .i64 a0_8, .int .u64 a0_9, .slice A0_10 l0_10.length c0_10, .int .u64 a0_11, .int .u64 a0_12, .int .i64 a0_13, .int .u64 a0_14, .int .u64 a0_15, .int .i64 a0_16, .int .i64 a0_17]] w fun e w' =>
      e = .returned (.tuple #[.string r1, .int .i64 r2]) ∧ Below w.heap.size w w' := by
  unfold log_PrintItem.f at h
  by_cases h5 : (0 ≤ a0_2 ∧ a0_2 ≤ 4294967295) ∧ a0_1.size ≤ 1000000
  rotate_left
  · rw [if_neg h5] at h
    cases h
  rw [if_pos h5, logItem] at h
  by_cases k1 : a0_0 < 1
  · rw [if_pos k1] at h
    simp only [Option.some.injEq, Prod.mk.injEq] at h
    obtain ⟨rfl, rfl⟩ := h
    exact item0_lo _ _ _ _ _ _ _ _ _ _ _ _ _ _ _ _ _ _ _ _ w k1
  rw [if_neg k1] at h
  by_cases k2 : 4 < a0_0
  · rw [if_pos k2] at h
    simp only [Option.some.injEq, Prod.mk.injEq] at h
    obtain ⟨rfl, rfl⟩ := h
    exact item0_hi _ _ _ _ _ _ _ _ _ _ _ _ _ _ _ _ _ _ _ _ w k2
  rw [if_neg k2] at h
  by_cases e1 : a0_0 = 1
  · rw [if_pos e1] at h
    subst e1
    by_cases hd : a0_1.size ≤ 1023
    · rw [if_pos hd] at h
      simp only [Option.some.injEq, Prod.mk.injEq] at h
      obtain ⟨rfl, rfl⟩ := h
      exact item1_good _ _ _ _ _ _ _ _ _ _ _ _ _ _ _ _ _ _ _ w hd
    · rw [if_neg hd] at h
      simp only [Option.some.injEq, Prod.mk.injEq] at h
      obtain ⟨rfl, rfl⟩ := h
      exact item1_long _ _ _ _ _ _ _ _ _ _ _ _ _ _ _ _ _ _ _ w (by omega) h5.2
  rw [if_neg e1] at h
  by_cases e2 : a0_0 = 2
  · rw [if_pos e2] at h
    subst e2
    by_cases hb : a0_8 < 0 ∨ 64 ≤ a0_8
    · rw [if_pos hb] at h
      simp only [Option.some.injEq, Prod.mk.injEq] at h
      obtain ⟨rfl, rfl⟩ := h
      exact item2_bad1 _ _ _ _ _ _ _ _ _ _ _ _ _ _ _ _ _ _ _ w hr0_10 hc0_10 h5.1 hb
    rw [if_neg hb] at h
    by_cases h2 : 32 < l0_10.length
    · rw [if_pos h2] at h
      simp only [Option.some.injEq, Prod.mk.injEq] at h
      obtain ⟨rfl, rfl⟩ := h
      exact item2_bad3 _ _ _ _ _ _ _ _ _ _ _ _ _ _ _ _ _ _ _ w hr0_10 hc0_10 h5.1 (by omega) h2
    rw [if_neg h2] at h
    by_cases h3 : ∀ x ∈ l0_10, sOk x
    · rw [if_pos h3] at h
      simp only [Option.some.injEq, Prod.mk.injEq] at h
      obtain ⟨rfl, rfl⟩ := h
      exact item2_good _ _ _ _ _ _ _ _ _ _ _ _ _ _ _ _ _ _ _ w hr0_10 hc0_10 h5.1 (by omega) (by omega) h3
    · rw [if_neg h3] at h
      simp only [Option.some.injEq, Prod.mk.injEq] at h
      obtain ⟨rfl, rfl⟩ := h
      exact item2_bad2 _ _ _ _ _ _ _ _ _ _ _ _ _ _ _ _ _ _ _ w hr0_10 hc0_10 h5.1 (by omega) (by omega) (by
        apply Classical.byContradiction
        intro hn
        exact h3 fun x hx => Classical.byContradiction fun hx2 => hn ⟨x, hx, hx2⟩)
  rw [if_neg e2] at h
  by_cases e3 : a0_0 = 3
  · rw [if_pos e3] at h
    subst e3
    by_cases hb : a0_13 < 0 ∨ 64 ≤ a0_13
    · rw [if_pos hb] at h
      simp only [Option.some.injEq, Prod.mk.injEq] at h
      obtain ⟨rfl, rfl⟩ := h
      exact item3_bad _ _ _ _ _ _ _ _ _ _ _ _ _ _ _ _ _ _ _ w hb
    · rw [if_neg hb] at h
      simp only [Option.some.injEq, Prod.mk.injEq] at h
      obtain ⟨rfl, rfl⟩ := h
      exact item3_good _ _ _ _ _ _ _ _ _ _ _ _ _ _ _ _ _ _ _ w (by omega)
  rw [if_neg e3] at h
  obtain rfl : a0_0 = 4 := by omega
  by_cases hx : a0_16 < 0 ∨ 65535 < a0_16 ∨ a0_17 < 0 ∨ 65535 < a0_17
  · rw [if_pos hx] at h
    simp only [Option.some.injEq, Prod.mk.injEq] at h
    obtain ⟨rfl, rfl⟩ := h
    by_cases c1 : a0_16 < 0
    · exact item4_ixlo _ _ _ _ _ _ _ _ _ _ _ _ _ _ _ _ _ _ _ w c1
    by_cases c2 : 65535 < a0_16
    · exact item4_ixhi _ _ _ _ _ _ _ _ _ _ _ _ _ _ _ _ _ _ _ w c2
    by_cases c3 : a0_17 < 0
    · exact item4_ttlo _ _ _ _ _ _ _ _ _ _ _ _ _ _ _ _ _ _ _ w (by omega) c3
    · exact item4_tthi _ _ _ _ _ _ _ _ _ _ _ _ _ _ _ _ _ _ _ w (by omega) (by omega)
  rw [if_neg hx] at h
  by_cases hd : a0_1.size ≤ 1011
  · rw [if_pos hd] at h
    simp only [Option.some.injEq, Prod.mk.injEq] at h
    obtain ⟨rfl, rfl⟩ := h
    exact item4_good _ _ _ _ _ _ _ _ _ _ _ _ _ _ _ _ _ _ _ w (by omega) (by omega) hd
  · rw [if_neg hd] at h
    simp only [Option.some.injEq, Prod.mk.injEq] at h
    obtain ⟨rfl, rfl⟩ := h
    exact item4_long _ _ _ _ _ _ _ _ _ _ _ _ _ _ _ _ _ _ _ w (by omega) (by omega) (by omega) h5.2
end Go.Proofs.Ytlkemknhmfjdpaa.P
