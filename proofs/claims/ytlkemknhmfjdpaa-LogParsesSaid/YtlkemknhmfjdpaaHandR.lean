import Derived.Test.YtlkemknhmfjdpaaPx2
import Derived.Test.YtlkemknhmfjdpaaHandV
import Derived.Test.YtlkemknhmfjdpaaHandW
import Derived.Deep.RegionWith
import Derived.RegionCalls
import Derived.Outline
/- The log's reader, by hand: numbers and texts, good and short. -/
namespace Go.Proofs.Ytlkemknhmfjdpaa.P
open Go.RowKit Go.Proofs.YtlkemknhmfjdpaaW.PrintWords Go.Proofs.YtlkemknhmfjdpaaW.PrintLast Go.Proofs.YtlkemknhmfjdpaaW.PrintMore
attribute [local go_sem] max2_int min2_int max_two min_two max_three min_three max_four min_four
set_option linter.unusedVariables false
set_option linter.unusedSimpArgs false

theorem wrap_in2 {x : Int} (h0 : -9223372036854775808 ≤ x) (h1 : x ≤ 9223372036854775807) : wrap64 x = x := by unfold wrap64; omega
set_option maxHeartbeats 2000000 in
theorem reader_left (g : Nat) (s : ByteArray) (p : Int) (w0 w : World) (hI : IsS93 w0 w g s p) (hB : Below w0.heap.size w0 w) (h0 : 0 ≤ p) (h1 : p ≤ s.size) (hs : s.size ≤ 1000000) :
    Calls Try.prog 36 #[.pointer (some ⟨g, 0, none⟩)] w fun e w' => e = .returned (.int .i64 ((s.size : Int) - p)) ∧ IsS93 w0 w' g s p ∧ Below w0.heap.size w0 w' ∧ KeepBut w w' g none := by
  have HI := Aside0.mk hI
  have HB := Aside0.mk hB
  have c0 : w.cell? ⟨g, 0, none⟩ = some (.string s) := cellAt hI.1 rfl
  have c1 : w.cell? ⟨g, 1, none⟩ = some (.int .i64 p) := cellAt hI.1 rfl
  have hw : wrap64 ((s.size : Int) - p) = (s.size : Int) - p := wrap_in2 (by omega) (by omega)
  have HW := Aside0.mk hw
  clear hI hB h0 h1 hs hw
  go_enter Try.func36, Try.ntmps36
  go_wp2
  go_quiet (fail)
  go_wp2
  go_ret
  exact ⟨by first | rfl | (rw [HW.out]; rfl), HI.out.drewN _, pw_below_drewN HB.out _, KeepBut.of_below (pw_below_drewN (Below.refl _ _) _) _ _⟩
set_option maxHeartbeats 4000000 in
set_option maxRecDepth 100000 in
theorem reader_text (g : Nat) (s : ByteArray) (p n : Int) (w0 w : World) (hI : IsS93 w0 w g s p) (hB : Below w0.heap.size w0 w) (h0 : 0 ≤ p) (h1 : p + n ≤ s.size) (hn : 0 ≤ n) (hs : s.size ≤ 1000000) :
    Calls Try.prog 35 #[.pointer (some ⟨g, 0, none⟩), .int .i64 n] w fun e w' => e = .returned (.string (s.extract p.toNat (p + n).toNat)) ∧ IsS93 w0 w' g s (p + n) ∧ Below w0.heap.size w0 w' ∧ KeepBut w w' g none := by
  have HI := Aside0.mk hI
  have HB := Aside0.mk hB
  have HN := Aside0.mk (show 0 ≤ p ∧ p + n ≤ s.size ∧ 0 ≤ n ∧ s.size ≤ 1000000 from ⟨h0, h1, hn, hs⟩)
  have hm : ¬ n < 0 := by omega
  obtain ⟨q, hq⟩ : ∃ q, q = p + n := ⟨_, rfl⟩
  have hw : IntKind.i64.wrap (p + n) = q := by rw [i64_w, wrap_in2 (by omega) (by omega), hq]
  have hw' : wrap64 (p + n) = q := by rw [wrap_in2 (by omega) (by omega), hq]
  have b0 : decide ((s.size : Int) - p < n) = false := decide_eq_false (by omega)
  have q0 : (0 : Int) ≤ p := h0
  have q1 : p ≤ q := by omega
  have q2 : q ≤ (s.size : Int) := by omega
  rw [← hq]
  have HQ := Aside0.mk hq
  clear hI hB h1 hn hs hq h0
  go_enter Try.func35, Try.ntmps35
  go_wp2_with (go_at_call 36; (with_reducible refine (reader_left g s p w0 _ HI.out HB.out HN.out.1 (by have := HN.out; omega) HN.out.2.2.2).mono ?_); rintro e w9 ⟨rfl, hi, hb, hk⟩; have HI1 := Aside0.mk hi; have HB1 := Aside0.mk hb; have HK1 := Aside0.mk hk; have c0 : w9.cell? ⟨g, 0, none⟩ = some (.string s) := cellAt hi.1 rfl; have c1 : w9.cell? ⟨g, 1, none⟩ = some (.int .i64 p) := cellAt hi.1 rfl; have f1 := blk_frozen hi.1 1; clear hi hb hk)
  go_quiet (fail)
  go_wp2
  go_ret
  have hge := HI1.out.2
  exact ⟨rfl, ⟨blk_set (show (w9.drewN nq).heap[g]? = _ from HI1.out.1) 1 _, hge⟩, below_set (pw_below_drewN HB1.out _) hge, (HK1.out.trans (KeepBut.of_below (pw_below_drewN (Below.refl _ _) _) g none) (.inl rfl)).set_ 1 _⟩
set_option maxHeartbeats 4000000 in
set_option maxRecDepth 100000 in
theorem reader_text_bad (g : Nat) (s : ByteArray) (p n : Int) (w0 w : World) (hI : IsS93 w0 w g s p) (hB : Below w0.heap.size w0 w) (h0 : 0 ≤ p) (h1 : p ≤ s.size) (h2 : s.size < p + n) (hn : 0 ≤ n) (hs : s.size ≤ 1000000) :
    Calls Try.prog 35 #[.pointer (some ⟨g, 0, none⟩), .int .i64 n] w fun e w' => e = gives 2 ∧ Below w0.heap.size w0 w' ∧ KeepBut w w' g none := by
  have HI := Aside0.mk hI
  have HB := Aside0.mk hB
  have HN := Aside0.mk (show 0 ≤ p ∧ p ≤ s.size ∧ s.size ≤ 1000000 from ⟨h0, h1, hs⟩)
  have hm : ¬ n < 0 := by omega
  have b0 : decide ((s.size : Int) - p < n) = true := decide_eq_true (by omega)
  clear hI hB h1 hn hs h0 h2
  go_enter Try.func35, Try.ntmps35
  go_wp2_with (go_at_call 36; (with_reducible refine (reader_left g s p w0 _ HI.out HB.out HN.out.1 HN.out.2.1 HN.out.2.2).mono ?_); rintro e w9 ⟨rfl, hi, hb, hk⟩; have HB1 := Aside0.mk hb; have HK1 := Aside0.mk hk; clear hi hb hk)
  exact ⟨rfl, rfl, HB1.out, HK1.out⟩
/-- The number of n bytes at p. -/
def numAt (s : ByteArray) (p n : Int) : Int := valL (s.extract p.toNat (p + n).toNat).data.toList
theorem numAt_is (s : ByteArray) (p n : Int) (hs : s.size ≤ 1000000) : num_value.f (s.extract p.toNat (p + n).toNat) = some (numAt s p n) := by
  unfold num_value.f numAt
  rw [if_pos (by rw [ByteArray.size_extract]; omega)]
theorem size_in (n : Int) (h0 : 0 ≤ n) (h8 : n ≤ 8) : num_size.f n = some n := by
  unfold num_size.f mx mn
  congr 1
  (repeat' split) <;> omega
set_option maxHeartbeats 4000000 in
set_option maxRecDepth 100000 in
theorem reader_num (g : Nat) (s : ByteArray) (p n : Int) (w0 w : World) (hI : IsS93 w0 w g s p) (hB : Below w0.heap.size w0 w) (h0 : 0 ≤ p) (h1 : p + n ≤ s.size) (hn : 0 ≤ n) (h8 : n ≤ 8) (hs : s.size ≤ 1000000) :
    Calls Try.prog 27 #[.pointer (some ⟨g, 0, none⟩), .int .i64 n] w fun e w' => e = .returned (.int .u64 (numAt s p n)) ∧ IsS93 w0 w' g s (p + n) ∧ Below w0.heap.size w0 w' ∧ KeepBut w w' g none := by
  have HI := Aside0.mk hI
  have HB := Aside0.mk hB
  have HN := Aside0.mk (show 0 ≤ p ∧ p + n ≤ s.size ∧ 0 ≤ n ∧ s.size ≤ 1000000 from ⟨h0, h1, hn, hs⟩)
  have HZ := Aside0.mk (size_in n hn h8)
  have HV := Aside0.mk (numAt_is s p n hs)
  clear hI hB h1 hn hs h0 h8
  go_enter Try.func27, Try.ntmps27
  go_wp2_with (first | (go_at_call 45; (with_reducible refine (num_size.calls n n _ HZ.out).mono ?_); rintro e w6 ⟨rfl, hb⟩; have HI1 := Aside0.mk (IsS93.below HI.out hb); have HB1 := Aside0.mk (below_step HB.out hb); have HK1 := Aside0.mk (KeepBut.of_below hb g none); clear hb) | (go_at_call 35; (with_reducible refine (reader_text g s p n w0 _ HI1.out HB1.out HN.out.1 HN.out.2.1 HN.out.2.2.1 HN.out.2.2.2).mono ?_); rintro e w7 ⟨rfl, hi, hb, hk⟩; have HI2 := Aside0.mk hi; have HB2 := Aside0.mk hb; have HK2 := Aside0.mk (KeepBut.trans HK1.out hk (.inl rfl)); clear hi hb hk) | (go_at_call 44; (with_reducible refine (num_value.calls _ (numAt s p n) _ HV.out).mono ?_); rintro e w8 ⟨rfl, hb⟩; have HI3 := Aside0.mk (IsS93.below HI2.out hb); have HB3 := Aside0.mk (below_step HB2.out hb); have HK3 := Aside0.mk (KeepBut.trans HK2.out (KeepBut.of_below hb g none) (.inl rfl)); clear hb))
  go_ret
  exact ⟨rfl, HI3.out, HB3.out, HK3.out⟩
set_option maxHeartbeats 4000000 in
set_option maxRecDepth 100000 in
theorem reader_num_bad (g : Nat) (s : ByteArray) (p n : Int) (w0 w : World) (hI : IsS93 w0 w g s p) (hB : Below w0.heap.size w0 w) (h0 : 0 ≤ p) (h1 : p ≤ s.size) (h2 : s.size < p + n) (hn : 0 ≤ n) (h8 : n ≤ 8) (hs : s.size ≤ 1000000) :
    Calls Try.prog 27 #[.pointer (some ⟨g, 0, none⟩), .int .i64 n] w fun e w' => e = gives 2 ∧ Below w0.heap.size w0 w' ∧ KeepBut w w' g none := by
  have HI := Aside0.mk hI
  have HB := Aside0.mk hB
  have HN := Aside0.mk (show 0 ≤ p ∧ p ≤ s.size ∧ s.size < p + n ∧ 0 ≤ n ∧ s.size ≤ 1000000 from ⟨h0, h1, h2, hn, hs⟩)
  have HZ := Aside0.mk (size_in n hn h8)
  clear hI hB h1 hn hs h0 h8 h2
  go_enter Try.func27, Try.ntmps27
  go_wp2_with (first | (go_at_call 45; (with_reducible refine (num_size.calls n n _ HZ.out).mono ?_); rintro e w6 ⟨rfl, hb⟩; have HI1 := Aside0.mk (IsS93.below HI.out hb); have HB1 := Aside0.mk (below_step HB.out hb); have HK1 := Aside0.mk (KeepBut.of_below hb g none); clear hb) | (go_at_call 35; (with_reducible refine (reader_text_bad g s p n w0 _ HI1.out HB1.out HN.out.1 HN.out.2.1 HN.out.2.2.1 HN.out.2.2.2.1 HN.out.2.2.2.2).mono ?_); rintro e w7 ⟨rfl, hb, hk⟩; have HB2 := Aside0.mk hb; have HK2 := Aside0.mk (KeepBut.trans HK1.out hk (.inl rfl)); clear hb hk))
  exact ⟨rfl, rfl, HB2.out, HK2.out⟩
/-! ### end -/
set_option maxHeartbeats 4000000 in
theorem reader_end (g : Nat) (s : ByteArray) (p : Int) (w0 w : World) (hI : IsS93 w0 w g s p) (hB : Below w0.heap.size w0 w) (h0 : 0 ≤ p) (h1 : p = s.size) (hs : s.size ≤ 1000000) :
    Calls Try.prog 29 #[.agg #[.pointer (some ⟨g, 0, none⟩)]] w fun e w' => e = .returned (.tuple #[]) ∧ Below w0.heap.size w0 w' ∧ KeepBut w w' g none := by
  have HI := Aside0.mk hI
  have HB := Aside0.mk hB
  have HN := Aside0.mk (show 0 ≤ p ∧ p ≤ s.size ∧ s.size ≤ 1000000 from ⟨h0, by omega, hs⟩)
  have b0 : decide (0 < (s.size : Int) - p) = false := decide_eq_false (by omega)
  have b1 : decide (p < (s.size : Int)) = false := decide_eq_false (by omega)
  clear hI hB h1 hs h0
  go_enter Try.func29, Try.ntmps29
  go_wp2_with (first | (go_at_call 36; (with_reducible refine (reader_left g s p w0 _ (HI.out.alloc _) (below_alloc HB.out _) HN.out.1 HN.out.2.1 HN.out.2.2).mono ?_); rintro e w9 ⟨rfl, hi, hb, hk⟩; have HB1 := Aside0.mk hb; have HK1 := Aside0.mk ((KeepBut.of_below (below_alloc (Below.refl _ _) _) g none).trans hk (.inl rfl)); clear hi hb hk) | (go_at_call 26; (with_reducible refine (bad_no _ _).mono ?_); rintro e w_ ⟨rfl, rfl⟩))
  go_end0
  exact ⟨rfl, HB1.out, HK1.out⟩
set_option maxHeartbeats 4000000 in
theorem reader_end_bad (g : Nat) (s : ByteArray) (p : Int) (w0 w : World) (hI : IsS93 w0 w g s p) (hB : Below w0.heap.size w0 w) (h0 : 0 ≤ p) (h1 : p < s.size) (hs : s.size ≤ 1000000) :
    Calls Try.prog 29 #[.agg #[.pointer (some ⟨g, 0, none⟩)]] w fun e w' => e = gives 4 ∧ Below w0.heap.size w0 w' ∧ KeepBut w w' g none := by
  have HI := Aside0.mk hI
  have HB := Aside0.mk hB
  have HN := Aside0.mk (show 0 ≤ p ∧ p ≤ s.size ∧ s.size ≤ 1000000 from ⟨h0, by omega, hs⟩)
  have b0 : decide (0 < (s.size : Int) - p) = true := decide_eq_true (by omega)
  have b1 : decide (p < (s.size : Int)) = true := decide_eq_true (by omega)
  clear hI hB h1 hs h0
  go_enter Try.func29, Try.ntmps29
  go_wp2_with (first | (go_at_call 36; (with_reducible refine (reader_left g s p w0 _ (HI.out.alloc _) (below_alloc HB.out _) HN.out.1 HN.out.2.1 HN.out.2.2).mono ?_); rintro e w9 ⟨rfl, hi, hb, hk⟩; have HB1 := Aside0.mk hb; have HK1 := Aside0.mk ((KeepBut.of_below (below_alloc (Below.refl _ _) _) g none).trans hk (.inl rfl)); clear hi hb hk) | (go_at_call 26; (with_reducible refine (bad_yes 4 _).mono ?_); rintro e w_ ⟨rfl, rfl⟩))
  exact ⟨rfl, rfl, HB1.out, HK1.out⟩
end Go.Proofs.Ytlkemknhmfjdpaa.P
/- The log's reader, by hand: views. -/
namespace Go.Proofs.Ytlkemknhmfjdpaa.P
open Go.RowKit Go.Proofs.YtlkemknhmfjdpaaW.PrintWords Go.Proofs.YtlkemknhmfjdpaaW.PrintLast Go.Proofs.YtlkemknhmfjdpaaW.PrintMore
attribute [local go_sem] max2_int min2_int max_two min_two max_three min_three max_four min_four
set_option linter.unusedVariables false
set_option linter.unusedSimpArgs false

/-- A view's preparations: the reader's box, the result. -/
abbrev vW (w : World) (g : Nat) : World := (w.alloc (.cells #[.pointer (some ⟨g, 0, none⟩)] 73)).alloc (.cells #[.int .u64 0, .int .u64 0, .int .i64 0, .int .u64 0] 27)
theorem heap_old1 {W : World} {i : Nat} {o : Obj} (h : W.heap[i]? = some o) (o2 : Obj) : (W.alloc o2).heap[i]? = some o := ((below_alloc (Below.refl _ _) o2).block i (blk_lt h)).trans h
theorem vW_b0 (w : World) (g : Nat) : (vW w g).heap[w.heap.size]? = some (.cells #[.pointer (some ⟨g, 0, none⟩)] 73 (0, 0)) := heap_old1 (heap_alloc_new w _) _
theorem vW_b1 (w : World) (g : Nat) : (vW w g).heap[w.heap.size + 1]? = some (.cells #[.int .u64 0, .int .u64 0, .int .i64 0, .int .u64 0] 27 (0, 0)) := by
  have := heap_alloc_new (w.alloc (.cells #[.pointer (some ⟨g, 0, none⟩)] 73)) (.cells #[.int .u64 0, .int .u64 0, .int .i64 0, .int .u64 0] 27)
  simpa using this
/-- What lies in a view's blocks. -/
structure VS (w0 w W : World) (g : Nat) (s : ByteArray) (q : Int) : Prop where
  sz0 : w0.heap.size ≤ w.heap.size
  rd : IsS93 w0 W g s q
  bel : Below w0.heap.size w0 W
  keep : KeepBut w W g none
  b0 : W.heap[w.heap.size]? = some (.cells #[.pointer (some ⟨g, 0, none⟩)] 73 (0, 0))
  b1 : W.heap[w.heap.size + 1]? = some (.cells #[.int .u64 0, .int .u64 0, .int .i64 0, .int .u64 0] 27 (0, 0))
section
variable {w0 w W W1 : World} {g : Nat} {s : ByteArray} {q q1 : Int}
theorem VS.start (hI : IsS93 w0 w g s q) (hB : Below w0.heap.size w0 w) : VS w0 w (vW w g) g s q :=
  ⟨hB.size, (hI.alloc _).alloc _, below_alloc (below_alloc hB _) _, KeepBut.of_below (below_alloc (below_alloc (Below.refl _ _) _) _) _ _, vW_b0 w g, vW_b1 w g⟩
theorem VS.call (h : VS w0 w W g s q) (hg : g < w.heap.size) (hi : IsS93 w0 W1 g s q1) (hb : Below w0.heap.size w0 W1) (hk : KeepBut W W1 g none) : VS w0 w W1 g s q1 :=
  ⟨h.sz0, hi, hb, h.keep.trans hk (.inl rfl), hk.blk h.b0 (by omega) (by simp), hk.blk h.b1 (by omega) (by simp)⟩
theorem VS.far (h : VS w0 w W g s q) {p : Addr} (h1 : p.block ≠ g) (h2 : p.block > w.heap.size + 1) (u : Value) : VS w0 w (W.setCell p u) g s q :=
  ⟨h.sz0, h.rd.far (fun e => h1 e.symm) u, h.bel.setCell (by have := h.bel.size; have := h.keep.1; have := h.rd.2; have := h.sz0; omega) u, keep_far h.keep (by omega) u, blk_far h.b0 (by omega) u, blk_far h.b1 (by omega) u⟩
theorem VS.below (h : VS w0 w W g s q) (hg : g < w.heap.size) (hb : Below W.heap.size W W1) : VS w0 w W1 g s q :=
  h.call hg (h.rd.below hb) (below_step h.bel hb) (KeepBut.of_below hb g none)
end
set_option maxHeartbeats 8000000 in
set_option maxRecDepth 100000 in
theorem reader_view (g : Nat) (s : ByteArray) (p : Int) (w0 w : World) (hI : IsS93 w0 w g s p) (hB : Below w0.heap.size w0 w) (h0 : 0 ≤ p) (h1 : p + 25 ≤ s.size) (hs : s.size ≤ 1000000) (hr : IntKind.i64.wrap (numAt s (p + 16) 1) < 64) :
    Calls Try.prog 34 #[.agg #[.pointer (some ⟨g, 0, none⟩)]] w fun e w' => e = .returned (.agg #[.int .u64 (numAt s p 8), .int .u64 (numAt s (p + 8) 8), .int .i64 (IntKind.i64.wrap (numAt s (p + 16) 1)), .int .u64 (numAt s (p + 17) 8)]) ∧ IsS93 w0 w' g s (p + 25) ∧ Below w0.heap.size w0 w' ∧ KeepBut w w' g none := by
  have HG := Aside0.mk (IsS93.lt hI)
  have HV0 := Aside0.mk (VS.start (w := w) hI hB)
  have HN := Aside0.mk (show 0 ≤ p ∧ p + 25 ≤ s.size ∧ s.size ≤ 1000000 from ⟨h0, h1, hs⟩)
  obtain ⟨x0, hx0⟩ : ∃ x, x = numAt s p 8 := ⟨_, rfl⟩
  obtain ⟨x1, hx1⟩ : ∃ x, x = numAt s (p + 8) 8 := ⟨_, rfl⟩
  obtain ⟨x2, hx2⟩ : ∃ x, x = numAt s (p + 16) 1 := ⟨_, rfl⟩
  obtain ⟨x3, hx3⟩ : ∃ x, x = numAt s (p + 17) 8 := ⟨_, rfl⟩
  rw [← hx0, ← hx1, ← hx2, ← hx3]
  rw [← hx2] at hr
  obtain ⟨y2, hy2⟩ : ∃ y, y = IntKind.i64.wrap x2 := ⟨_, rfl⟩
  rw [← hy2] at hr ⊢
  have b3 : decide (64 ≤ y2) = false := decide_eq_false (by omega)
  have HX0 := Aside0.mk hx0
  have HX1 := Aside0.mk hx1
  have HX2 := Aside0.mk hx2
  have HX3 := Aside0.mk hx3
  have HY2 := Aside0.mk hy2
  clear hI hB h0 h1 hs hr hx0 hx1 hx2 hx3 hy2
  go_enter Try.func34, Try.ntmps34
  go_wp2_with (go_at_call 27; (with_reducible refine (reader_num g s p 8 w0 (vW w g) HV0.out.rd HV0.out.bel HN.out.1 (by have := HN.out; omega) (by omega) (by omega) HN.out.2.2).mono ?_); rintro e w3 ⟨rfl, hi, hb, hk⟩; rw [← HX0.out]; have HV1 := Aside0.mk (HV0.out.call HG.out hi hb hk); clear hi hb hk)
  have hyr : IntKind.i64.wrap x2 = y2 := HY2.out.symm
  have HV2 := Aside0.mk (VS.below HV1.out HG.out (W1 := (w3.alloc (.cells #[.int .u64 x0, .int .u64 0, .int .i64 0, .int .u64 0] 27)).drew) (below_drew (below_alloc (Below.refl _ _) _)))
  have HT2 := Aside0.mk (show (w3.alloc (.cells #[.int .u64 x0, .int .u64 0, .int .i64 0, .int .u64 0] 27)).drew.heap[w3.heap.size]? = _ from heap_alloc_new w3 _)
  have HTN := Aside0.mk (show w3.heap.size ≠ g by have := HV1.out.keep.1; have := HG.out; omega)
  have r0 := cellAt (i := 0) HV2.out.b0 rfl
  go_cut [10, 13] from 8 to 19 (fun v10 v13 wx => Aside0 (VS w0 w wx g s (p + 17)) ∧ Aside0 (wx.heap[w3.heap.size]? = some (.cells #[.int .u64 x0, .int .u64 x1, .int .i64 y2, .int .u64 0] 27 (0, 0))))
  case first =>
    go_region_with (first
      | (go_at_call 27; (with_reducible refine (reader_num g s (p + 8) 8 w0 _ HV2.out.rd HV2.out.bel (by have := HN.out; omega) (by have := HN.out; omega) (by omega) (by omega) HN.out.2.2).mono ?_); rintro e w4 ⟨rfl, hi, hb, hk⟩; rw [← HX1.out]; have HV3 := Aside0.mk (HV2.out.call HG.out (show IsS93 w0 w4 g s (p + 16) by rwa [show p + 16 = p + 8 + 8 by omega]) hb hk); have HT3 := Aside0.mk (hk.blk HT2.out HTN.out (by simp)); have r1 := cellAt (i := 0) HV3.out.b0 rfl; clear hi hb hk)
      | (go_at_call 27; (with_reducible refine (reader_num g s (p + 16) 1 w0 _ HV3.out.rd HV3.out.bel (by have := HN.out; omega) (by have := HN.out; omega) (by omega) (by omega) HN.out.2.2).mono ?_); rintro e w5 ⟨rfl, hi, hb, hk⟩; rw [← HX2.out]; have HV4 := Aside0.mk (HV3.out.call HG.out (show IsS93 w0 w5 g s (p + 17) by rwa [show p + 17 = p + 16 + 1 by omega]) hb hk); have HT4 := Aside0.mk (hk.blk HT3.out HTN.out (by simp)); have r2 := cellAt (i := 0) HV4.out.b0 rfl; have s1 := cellAt (i := 1) HT4.out rfl; have s2 := cellAt (i := 2) HT4.out rfl; have f1 := blk_frozen HT4.out 1; have f2 := blk_frozen HT4.out 2; clear hi hb hk))
    all_goals
      go_wp2_with fail
      go_meet
      case rel => exact ⟨⟨(HV4.out.far (p := ⟨w3.heap.size, 1, none⟩) HTN.out (by have := HV1.out.keep.1; have := HG.out; have := blk_lt HV1.out.b1; show w3.heap.size > _; omega) _).far (p := ⟨w3.heap.size, 2, none⟩) HTN.out (by have := blk_lt HV1.out.b1; show w3.heap.size > _; omega) _⟩, ⟨blk_set (blk_set HT4.out 1 _) 2 _⟩⟩
  case rest =>
    obtain ⟨HV5, HT5⟩ := hcut
    have r5 := cellAt (i := 0) HV5.out.b0 rfl
    have s2 := cellAt (i := 2) HT5.out rfl
    clear r0 HV2 HT2
    go_wp2_with (first
      | (go_at_call 26; (with_reducible refine (bad_no _ _).mono ?_); rintro e w_ ⟨rfl, rfl⟩)
      | (go_at_call 27; (with_reducible refine (reader_num g s (p + 17) 8 w0 _ HV5.out.rd HV5.out.bel (by have := HN.out; omega) (by have := HN.out; omega) (by omega) (by omega) HN.out.2.2).mono ?_); clear r5 s2; rintro e w6 ⟨rfl, hi, hb, hk⟩; rw [← HX3.out]; have HV6 := Aside0.mk (HV5.out.call HG.out (show IsS93 w0 w6 g s (p + 25) by rwa [show p + 25 = p + 17 + 8 by omega]) hb hk); have HT6 := Aside0.mk (hk.blk HT5.out HTN.out (by simp)); have s0 := cellAt (i := 0) HT6.out rfl; have s1 := cellAt (i := 1) HT6.out rfl; have s2 := cellAt (i := 2) HT6.out rfl; have s3 := cellAt (i := 3) HT6.out rfl; have f3 := blk_frozen HT6.out 3; have HNE := Aside0.mk (show w3.heap.size ≠ w.heap.size + 1 by have := blk_lt HV1.out.b1; omega); have z0 := cellAt (i := 0) HV6.out.b1 rfl; have z1 := cellAt (i := 1) HV6.out.b1 rfl; have z2 := cellAt (i := 2) HV6.out.b1 rfl; have z3 := cellAt (i := 3) HV6.out.b1 rfl; have g0 := blk_frozen HV6.out.b1 0; have g1 := blk_frozen HV6.out.b1 1; have g2 := blk_frozen HV6.out.b1 2; have g3 := blk_frozen HV6.out.b1 3; have hne : ¬ w3.heap.size = w.heap.size + 1 := HNE.out; have hne' : ¬ w.heap.size + 1 = w3.heap.size := fun e => hne e.symm; clear hi hb hk))
    have hg := HG.out
    have hw3 : w.heap.size + 1 < w3.heap.size := blk_lt HV1.out.b1
    have hz := HV6.out.sz0
    refine bodyPost_ret (v := .agg #[.int .u64 x0, .int .u64 x1, .int .i64 y2, .int .u64 x3]) (results_single rfl (.cell (w.heap.size + 1) 27 #[.int .u64 x0, .int .u64 x1, .int .i64 y2, .int .u64 x3] (0, 0) _ rfl (blk_set (blk_set (blk_set (blk_set (blk_far (p := ⟨w3.heap.size, 3, none⟩) HV6.out.b1 (show w.heap.size + 1 ≠ w3.heap.size by omega) (.int .u64 x3)) 0 (.int .u64 x0)) 1 (.int .u64 x1)) 2 (.int .i64 y2)) 3 (.int .u64 x3)) Try.underlying27 rfl (by kernel_rfl) .nil)) rfl ⟨rfl, ?_, ?_, ?_⟩
    · exact ((((HV6.out.rd.far (p := ⟨w3.heap.size, 3, none⟩) (show g ≠ w3.heap.size by omega) _).far (show g ≠ w.heap.size + 1 by omega) _).far (show g ≠ w.heap.size + 1 by omega) _).far (show g ≠ w.heap.size + 1 by omega) _).far (show g ≠ w.heap.size + 1 by omega) _
    · exact below_set (below_set (below_set (below_set (below_set HV6.out.bel (by omega)) (by omega)) (by omega)) (by omega)) (by omega)
    · exact keep_far (keep_far (keep_far (keep_far (keep_far HV6.out.keep (show w.heap.size ≤ w3.heap.size by omega) _) (show w.heap.size ≤ w.heap.size + 1 by omega) _) (show w.heap.size ≤ w.heap.size + 1 by omega) _) (show w.heap.size ≤ w.heap.size + 1 by omega) _) (show w.heap.size ≤ w.heap.size + 1 by omega) _
end Go.Proofs.Ytlkemknhmfjdpaa.P
