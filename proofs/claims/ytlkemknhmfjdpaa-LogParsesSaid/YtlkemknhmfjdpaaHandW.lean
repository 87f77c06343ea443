import Derived.Test.YtlkemknhmfjdpaaPx2
import Derived.Test.YtlkemknhmfjdpaaPutLaw
import Derived.Lib.Hide
import Derived.Outline
import Derived.WalkSmall
import Derived.Recover
import Derived.Defers
/- The log's writer, by hand: its state is a block of one cell, a slice of bytes of its own. -/
namespace Go.Proofs.Ytlkemknhmfjdpaa.P
open Go.RowKit Go.Proofs.YtlkemknhmfjdpaaW.PrintWords Go.Proofs.YtlkemknhmfjdpaaW.PrintLast Go.Proofs.YtlkemknhmfjdpaaW.PrintMore
attribute [local go_sem] max2_int min2_int max_two min_two max_three min_three max_four min_four
set_option linter.unusedVariables false
set_option linter.unusedSimpArgs false

/-- A panic of an Errno. -/
abbrev gives (c : Int) : Ending := .panicked [{ v := .iface 36 (.int .i64 c), recovered := false }]
/-- A writer at block g: the bytes that it holds; neither is older than w0. -/
def IsW (w0 W : World) (g : Nat) (xs : List Int) : Prop := ∃ v, W.heap[g]? = some (.cells #[v] 67 (0, 0)) ∧ w0.heap.size ≤ g ∧ Kd.R (Kd.int .u8) 5 W w0.heap.size (fun _ => True) v xs
section
variable {w0 W W1 : World} {g : Nat} {xs : List Int}
theorem IsW.below (h : IsW w0 W g xs) (hw : Below W.heap.size W W1) : IsW w0 W1 g xs := by
  obtain ⟨v, hb, hg, hr⟩ := h
  exact ⟨v, (hw.block g (blk_lt hb)).trans hb, hg, Kd.R_below hr hw⟩
theorem IsW.alloc (h : IsW w0 W g xs) (o : Obj) : IsW w0 (W.alloc o) g xs := h.below (below_alloc (Below.refl _ _) o)
theorem IsW.drewN (h : IsW w0 W g xs) (m : Nat) : IsW w0 (W.drewN m) g xs := h
theorem IsW.drew (h : IsW w0 W g xs) : IsW w0 W.drew g xs := h
theorem IsW.lt (h : IsW w0 W g xs) : g < W.heap.size := by
  obtain ⟨v, hb, _⟩ := h
  exact blk_lt hb
theorem IsW.ge (h : IsW w0 W g xs) : w0.heap.size ≤ g := by
  obtain ⟨v, hb, hg, _⟩ := h
  exact hg
end
/-! ### bad -/
set_option maxHeartbeats 1000000 in
theorem bad_no (c : Int) (w : World) : Calls Try.prog 26 #[.int .i64 c, .bool false] w fun e w' => e = .returned (.tuple #[]) ∧ w = w' := by
  go_enter Try.func26, Try.ntmps26
  go_wp2
  go_end0
  exact ⟨rfl, rfl⟩
set_option maxHeartbeats 1000000 in
theorem bad_yes (c : Int) (w : World) : Calls Try.prog 26 #[.int .i64 c, .bool true] w fun e w' => e = gives c ∧ w = w' := by
  go_enter Try.func26, Try.ntmps26
  go_wp2
  exact ⟨rfl, rfl, rfl⟩
/-! ### num -/
set_option maxHeartbeats 2000000 in
theorem writer_num (g : Nat) (xs : List Int) (v n : Int) (w0 w : World) (hI : IsW w0 w g xs) (hB : Below w0.heap.size w0 w) (hl : xs.length < 140737488355000) :
    Calls Try.prog 22 #[.pointer (some ⟨g, 0, none⟩), .int .u64 v, .int .i64 n] w fun e w' => e = .returned (.tuple #[]) ∧ IsW w0 w' g (xs ++ Pure.putL v (min n 8).toNat) ∧ Below w0.heap.size w0 w' ∧ KeepBut w w' g none := by
  have hp := Pure.put_is 9 (by omega) xs v n hl
  generalize xs ++ Pure.putL v (min n 8).toNat = ys at hp ⊢
  have HP := Aside0.mk hp
  clear hp
  have HB := Aside0.mk hB
  obtain ⟨v0, hb, hg, hr⟩ := hI
  obtain ⟨A, c, hv, hc, hC⟩ := Kd.R_reads hr
  subst hv
  have HBL := Aside0.mk hb
  have HG := Aside0.mk hg
  have HR := Aside0.mk hC
  have HC := Aside0.mk hc
  have c0 : w.cell? ⟨g, 0, none⟩ = some (.slice A xs.length c) := (blk_cell hb 0).trans rfl
  have f0 := blk_frozen hb 0
  clear hb hg hr hC hc hB hl
  go_enter Try.func22, Try.ntmps22
  go_wp2_with (go_at_call 43; (with_reducible refine (num_Put.calls 9 A c xs v n _ _ HR.out HC.out HP.out).mono ?_); rintro e w1 ⟨v1, rfl, ho, hb⟩; obtain ⟨A1, k1, rfl⟩ := Kd.R_slice ho; have HO := Aside0.mk ho; have HB1 := Aside0.mk hb; have HBL1 := Aside0.mk ((hb.block g (blk_lt HBL.out)).trans HBL.out); have c1 : w1.cell? ⟨g, 0, none⟩ = some (.slice A xs.length c) := (blk_cell HBL1.out 0).trans rfl; have f1 := blk_frozen HBL1.out 0; clear ho hb)
  go_end0
  have hge := HG.out
  refine ⟨rfl, ⟨_, blk_set HBL1.out 0 _, hge, ?_⟩, ?_, ?_⟩
  · exact Kd.R_mono (Kd.R_far (p := ⟨g, 0, none⟩) (Kd.R_types (Kd.R_lower HO.out HB.out.size) HBL1.out (by decide)) (fun _ hk => hk.2) _) (fun _ _ => trivial)
  · exact below_set (below_step HB.out HB1.out) hge
  · exact (KeepBut.of_below HB1.out g none).set_ 0 _
theorem writer_num' (g : Nat) (xs : List Int) (v n : Int) (m : Nat) (hm : (min n 8).toNat = m) (w0 w : World) (hI : IsW w0 w g xs) (hB : Below w0.heap.size w0 w) (hl : xs.length < 140737488355000) :
    Calls Try.prog 22 #[.pointer (some ⟨g, 0, none⟩), .int .u64 v, .int .i64 n] w fun e w' => e = .returned (.tuple #[]) ∧ IsW w0 w' g (xs ++ Pure.putL v m) ∧ Below w0.heap.size w0 w' ∧ KeepBut w w' g none := by
  rw [← hm]
  exact writer_num g xs v n w0 w hI hB hl
theorem cellAt {w : World} {b : Nat} {cs : Array Value} {t : TypeId} (h : w.heap[b]? = some (.cells cs t (0, 0))) {i : Nat} {v : Value} (hv : cs[i]? = some v) : w.cell? ⟨b, i, none⟩ = some v := (blk_cell h i).trans hv
/-! ### view -/
/-- A view's bytes. -/
def vB (n ep rep mem : Int) : List Int := Pure.putL n 8 ++ Pure.putL ep 8 ++ Pure.putL rep 1 ++ Pure.putL mem 8
theorem vB_length (n ep rep mem : Int) : (vB n ep rep mem).length = 25 := by simp [vB, Pure.putL_length]
set_option maxHeartbeats 4000000 in
set_option maxRecDepth 100000 in
theorem writer_view_good (g : Nat) (xs : List Int) (n ep rep mem : Int) (w0 w : World) (hI : IsW w0 w g xs) (hB : Below w0.heap.size w0 w) (hl : xs.length ≤ 1000000) (h0 : 0 ≤ rep) (h1 : rep < 64) :
    Calls Try.prog 32 #[.pointer (some ⟨g, 0, none⟩), .agg #[.int .u64 n, .int .u64 ep, .int .i64 rep, .int .u64 mem]] w fun e w' => e = .returned (.tuple #[]) ∧ IsW w0 w' g (xs ++ vB n ep rep mem) ∧ Below w0.heap.size w0 w' ∧ KeepBut w w' g none := by
  have b0 : decide (rep < 0) = false := decide_eq_false (by omega)
  have b1 : decide (64 ≤ rep) = false := decide_eq_false (by omega)
  have hwr : IntKind.u64.wrap rep = rep := by simp [IntKind.wrap, IntKind.bits, IntKind.signed]; omega
  have HLL := Aside0.mk hl
  have HI0 := Aside0.mk hI
  have HB0 := Aside0.mk hB
  have HWR := Aside0.mk hwr
  clear hI hB hl h0 h1 hwr
  go_enter Try.func32, Try.ntmps32
  go_wp2_with (first | ((with_reducible refine gate_dst (N := 3) rfl ?_); refine box_event ?hg (N := 3) ?hd (cs := #[.int .u64 n, .int .u64 ep, .int .i64 rep, .int .u64 mem]) (t := 27) ?hr ?_; (case hd => rfl); (case hg => rfl); (case hr => first | (go_simp; done) | (go_simp; rfl)); intro gb hg w7 hbox hb; have HI1 := Aside0.mk (HI0.out.below hb); have HB1 := Aside0.mk (below_step HB0.out hb); have HK1 := Aside0.mk (KeepBut.of_below hb g none); have HX1 := Aside0.mk hbox; have HNE := Aside0.mk (show gb ≠ g from by have := HI0.out.lt; omega); have c0 := cellAt (i := 0) HX1.out rfl; have c1 := cellAt (i := 1) HX1.out rfl; have c2 := cellAt (i := 2) HX1.out rfl; have c3 := cellAt (i := 3) HX1.out rfl;  clear hbox hb hg) | (go_at_call 26; (with_reducible refine (bad_no 1 _).mono ?_); rintro e w_ ⟨rfl, rfl⟩) | (go_at_call 22; (with_reducible refine (writer_num' g xs n 8 8 rfl w0 _ HI1.out HB1.out (by have := HLL.out; (try simp only [List.length_append, Pure.putL_length]); omega)).mono ?_); clear c0 c1 c2 c3; rintro e w_2 ⟨rfl, hi, hb, hk⟩; have HI2 := Aside0.mk hi; have HB2 := Aside0.mk hb; have HK2 := Aside0.mk (HK1.out.trans hk (.inl rfl)); have HX2 := Aside0.mk (hk.blk HX1.out HNE.out (by simp)); have c0 := cellAt (i := 0) HX2.out rfl; have c1 := cellAt (i := 1) HX2.out rfl; have c2 := cellAt (i := 2) HX2.out rfl; have c3 := cellAt (i := 3) HX2.out rfl;  clear hi hb hk) | (go_at_call 22; (with_reducible refine (writer_num' g (xs ++ Pure.putL n 8) ep 8 8 rfl w0 _ HI2.out HB2.out (by have := HLL.out; (try simp only [List.length_append, Pure.putL_length]); omega)).mono ?_); clear c0 c1 c2 c3; rintro e w_3 ⟨rfl, hi, hb, hk⟩; have HI3 := Aside0.mk hi; have HB3 := Aside0.mk hb; have HK3 := Aside0.mk (HK2.out.trans hk (.inl rfl)); have HX3 := Aside0.mk (hk.blk HX2.out HNE.out (by simp)); have c0 := cellAt (i := 0) HX3.out rfl; have c1 := cellAt (i := 1) HX3.out rfl; have c2 := cellAt (i := 2) HX3.out rfl; have c3 := cellAt (i := 3) HX3.out rfl;  clear hi hb hk) | (go_at_call 22; (with_reducible refine (writer_num' g (xs ++ Pure.putL n 8 ++ Pure.putL ep 8) (IntKind.u64.wrap rep) 1 1 rfl w0 _ HI3.out HB3.out (by have := HLL.out; (try simp only [List.length_append, Pure.putL_length]); omega)).mono ?_); clear c0 c1 c2 c3; rintro e w_4 ⟨rfl, hi, hb, hk⟩; rw [HWR.out] at hi; have HI4 := Aside0.mk hi; have HB4 := Aside0.mk hb; have HK4 := Aside0.mk (HK3.out.trans hk (.inl rfl)); have HX4 := Aside0.mk (hk.blk HX3.out HNE.out (by simp)); have c0 := cellAt (i := 0) HX4.out rfl; have c1 := cellAt (i := 1) HX4.out rfl; have c2 := cellAt (i := 2) HX4.out rfl; have c3 := cellAt (i := 3) HX4.out rfl;  clear hi hb hk) | (go_at_call 22; (with_reducible refine (writer_num' g (xs ++ Pure.putL n 8 ++ Pure.putL ep 8 ++ Pure.putL rep 1) mem 8 8 rfl w0 _ HI4.out HB4.out (by have := HLL.out; (try simp only [List.length_append, Pure.putL_length]); omega)).mono ?_); clear c0 c1 c2 c3; rintro e w_5 ⟨rfl, hi, hb, hk⟩; have HI5 := Aside0.mk hi; have HB5 := Aside0.mk hb; have HK5 := Aside0.mk (HK4.out.trans hk (.inl rfl)); have HX5 := Aside0.mk (hk.blk HX4.out HNE.out (by simp)); have c0 := cellAt (i := 0) HX5.out rfl; have c1 := cellAt (i := 1) HX5.out rfl; have c2 := cellAt (i := 2) HX5.out rfl; have c3 := cellAt (i := 3) HX5.out rfl;  clear hi hb hk))
  go_end0
  refine ⟨rfl, ?_, HB5.out, HK5.out⟩
  have h := HI5.out
  simp only [List.append_assoc] at h
  rw [vB]
  simp only [List.append_assoc]
  exact h
set_option maxHeartbeats 4000000 in
set_option maxRecDepth 100000 in
theorem writer_view_bad (g : Nat) (xs : List Int) (n ep rep mem : Int) (w0 w : World) (hI : IsW w0 w g xs) (hB : Below w0.heap.size w0 w) (hb : rep < 0 ∨ 64 ≤ rep) :
    Calls Try.prog 32 #[.pointer (some ⟨g, 0, none⟩), .agg #[.int .u64 n, .int .u64 ep, .int .i64 rep, .int .u64 mem]] w fun e w' => e = gives 1 ∧ Below w0.heap.size w0 w' ∧ KeepBut w w' g none := by
  have HI0 := Aside0.mk hI
  have HB0 := Aside0.mk hB
  clear hI hB
  by_cases h0 : rep < 0
  · have b0 : decide (rep < 0) = true := decide_eq_true h0
    clear h0 hb
    go_enter Try.func32, Try.ntmps32
    go_wp2_with (first | ((with_reducible refine gate_dst (N := 3) rfl ?_); refine box_event ?hg (N := 3) ?hd (cs := #[.int .u64 n, .int .u64 ep, .int .i64 rep, .int .u64 mem]) (t := 27) ?hr ?_; (case hd => rfl); (case hg => rfl); (case hr => first | (go_simp; done) | (go_simp; rfl)); intro gb hg w7 hbox hb; have HI1 := Aside0.mk (HI0.out.below hb); have HB1 := Aside0.mk (below_step HB0.out hb); have HK1 := Aside0.mk (KeepBut.of_below hb g none); have HX1 := Aside0.mk hbox; have HNE := Aside0.mk (show gb ≠ g from by have := HI0.out.lt; omega); have c0 := cellAt (i := 0) HX1.out rfl; have c1 := cellAt (i := 1) HX1.out rfl; have c2 := cellAt (i := 2) HX1.out rfl; have c3 := cellAt (i := 3) HX1.out rfl;  clear hbox hb hg) | (go_at_call 26; (with_reducible refine (bad_yes 1 _).mono ?_); rintro e w_ ⟨rfl, rfl⟩))
    exact ⟨rfl, rfl, HB1.out, HK1.out⟩
  · have b0 : decide (rep < 0) = false := decide_eq_false h0
    have b1 : decide (64 ≤ rep) = true := decide_eq_true (by omega)
    clear h0 hb
    go_enter Try.func32, Try.ntmps32
    go_wp2_with (first | ((with_reducible refine gate_dst (N := 3) rfl ?_); refine box_event ?hg (N := 3) ?hd (cs := #[.int .u64 n, .int .u64 ep, .int .i64 rep, .int .u64 mem]) (t := 27) ?hr ?_; (case hd => rfl); (case hg => rfl); (case hr => first | (go_simp; done) | (go_simp; rfl)); intro gb hg w7 hbox hb; have HI1 := Aside0.mk (HI0.out.below hb); have HB1 := Aside0.mk (below_step HB0.out hb); have HK1 := Aside0.mk (KeepBut.of_below hb g none); have HX1 := Aside0.mk hbox; have HNE := Aside0.mk (show gb ≠ g from by have := HI0.out.lt; omega); have c0 := cellAt (i := 0) HX1.out rfl; have c1 := cellAt (i := 1) HX1.out rfl; have c2 := cellAt (i := 2) HX1.out rfl; have c3 := cellAt (i := 3) HX1.out rfl;  clear hbox hb hg) | (go_at_call 26; (with_reducible refine (bad_yes 1 _).mono ?_); rintro e w_ ⟨rfl, rfl⟩))
    exact ⟨rfl, rfl, HB1.out, HK1.out⟩
end Go.Proofs.Ytlkemknhmfjdpaa.P
