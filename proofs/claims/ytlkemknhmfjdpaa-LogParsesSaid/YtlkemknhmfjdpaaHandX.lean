import Derived.Test.YtlkemknhmfjdpaaHandW
/- The log's writer of records, by hand. -/
namespace Go.Proofs.Ytlkemknhmfjdpaa.P
open Go.RowKit Go.Proofs.YtlkemknhmfjdpaaW.PrintWords Go.Proofs.YtlkemknhmfjdpaaW.PrintLast Go.Proofs.YtlkemknhmfjdpaaW.PrintMore
attribute [local go_sem] max2_int min2_int max_two min_two max_three min_three max_four min_four
set_option linter.unusedVariables false
set_option linter.unusedSimpArgs false

def sB (x : S27) : List Int := vB x.f0 x.f1.f0 x.f1.f1 x.f2
abbrev sOk (x : S27) : Prop := 0 ≤ x.f1.f1 ∧ x.f1.f1 < 64

/-- A record's bytes. -/
def recB (n ep rep mem : Int) (l : List S27) : List Int := vB n ep rep mem ++ Pure.putL (l.length : Int) 1 ++ l.flatMap sB
theorem sB_length (x : S27) : (sB x).length = 25 := vB_length _ _ _ _
theorem flatB_length (l : List S27) : (l.flatMap sB).length = 25 * l.length := by
  induction l with
  | nil => rfl
  | cons x l ih => rw [List.flatMap_cons, List.length_append, sB_length, ih, List.length_cons]; omega
theorem flatB_snoc (l : List S27) (i : Nat) (h : i < l.length) : (l.take (i + 1)).flatMap sB = (l.take i).flatMap sB ++ sB (rd_T27 l (i : Int)) := by
  rw [List.take_succ_eq_append_getElem h, List.flatMap_append]
  congr 1
  rw [List.flatMap_cons, List.flatMap_nil, List.append_nil, rd_T27, Int.toNat_natCast, List.getD_eq_getElem?_getD, List.getElem?_eq_getElem h, Option.getD_some]
theorem rd_mem (l : List S27) (i : Nat) (h : i < l.length) : rd_T27 l (i : Int) ∈ l := by
  rw [rd_T27, Int.toNat_natCast, List.getD_eq_getElem?_getD, List.getElem?_eq_getElem h, Option.getD_some]
  exact List.getElem_mem h
set_option maxHeartbeats 8000000 in
set_option maxRecDepth 100000 in
theorem writer_record_good (g : Nat) (xs : List Int) (n ep rep mem : Int) (A : Option Addr) (c : Nat) (l : List S27) (w0 w : World) (hI : IsW w0 w g xs) (hB : Below w0.heap.size w0 w) (hl : xs.length ≤ 1000) (hC : ∀ W', KeepBut w W' g none → Kd.C k27 W' A l.length l) (h0 : 0 ≤ rep) (h1 : rep < 64) (h2 : l.length ≤ 32) (h3 : ∀ x ∈ l, sOk x) :
    Calls Try.prog 23 #[.pointer (some ⟨g, 0, none⟩), .agg #[.int .u64 n, .int .u64 ep, .int .i64 rep, .int .u64 mem, .slice A l.length c]] w fun e w' => e = .returned (.tuple #[]) ∧ IsW w0 w' g (xs ++ recB n ep rep mem l) ∧ Below w0.heap.size w0 w' ∧ KeepBut w w' g none := by
  have HLL := Aside0.mk hl
  have HI0 := Aside0.mk hI
  have HB0 := Aside0.mk hB
  have HC := Aside0.mk hC
  have HR := Aside0.mk (show 0 ≤ rep ∧ rep < 64 from ⟨h0, h1⟩)
  have H2 := Aside0.mk h2
  have H3 := Aside0.mk h3
  have b0 : decide (32 < l.length) = false := decide_eq_false (by omega)
  have b0i : decide ((32 : Int) < (l.length : Int)) = false := decide_eq_false (by omega)
  have hwr : IntKind.u64.wrap (l.length : Int) = (l.length : Int) := by simp [IntKind.wrap, IntKind.bits, IntKind.signed]; omega
  have HWR := Aside0.mk hwr
  clear hI hB hl hC h0 h1 h2 h3 hwr
  go_enter Try.func23, Try.ntmps23
  go_wp2_with (first | ((with_reducible refine gate_dst (N := 3) rfl ?_); refine box_event ?hg (N := 3) ?hd (cs := #[.int .u64 n, .int .u64 ep, .int .i64 rep, .int .u64 mem, .slice A l.length c]) (t := 30) ?hr ?_; (case hd => rfl); (case hg => rfl); (case hr => first | (go_simp; done) | (go_simp; rfl)); intro gb hg w7 hbox hb; have HI1 := Aside0.mk (HI0.out.below hb); have HB1 := Aside0.mk (below_step HB0.out hb); have HK1 := Aside0.mk (KeepBut.of_below hb g none); have HX1 := Aside0.mk hbox; have HNE := Aside0.mk (show gb ≠ g from by have := HI0.out.lt; omega); have c0 := cellAt (i := 0) HX1.out rfl; have c1 := cellAt (i := 1) HX1.out rfl; have c2 := cellAt (i := 2) HX1.out rfl; have c3 := cellAt (i := 3) HX1.out rfl; have c4 := cellAt (i := 4) HX1.out rfl;  clear hbox hb hg) | (go_at_call 26; (with_reducible refine (bad_no 3 _).mono ?_); rintro e w_ ⟨rfl, rfl⟩) | (go_at_call 32; (with_reducible refine (writer_view_good g xs n ep rep mem w0 _ HI1.out HB1.out (by have := HLL.out; (try simp only [List.length_append, Pure.putL_length, vB_length]); omega) HR.out.1 HR.out.2).mono ?_); clear c0 c1 c2 c3 c4; rintro e w_2 ⟨rfl, hi, hb, hk⟩; have HI2 := Aside0.mk hi; have HB2 := Aside0.mk hb; have HK2 := Aside0.mk (HK1.out.trans hk (.inl rfl)); have HX2 := Aside0.mk (hk.blk HX1.out HNE.out (by simp)); have c0 := cellAt (i := 0) HX2.out rfl; have c1 := cellAt (i := 1) HX2.out rfl; have c2 := cellAt (i := 2) HX2.out rfl; have c3 := cellAt (i := 3) HX2.out rfl; have c4 := cellAt (i := 4) HX2.out rfl;  clear hi hb hk) | (go_at_call 22; (with_reducible refine (writer_num' g (xs ++ vB n ep rep mem) (IntKind.u64.wrap (l.length : Int)) 1 1 rfl w0 _ HI2.out HB2.out (by have := HLL.out; (try simp only [List.length_append, Pure.putL_length, vB_length]); omega)).mono ?_); clear c0 c1 c2 c3 c4; rintro e w_3 ⟨rfl, hi, hb, hk⟩; rw [HWR.out] at hi; have HI3 := Aside0.mk hi; have HB3 := Aside0.mk hb; have HK3 := Aside0.mk (HK2.out.trans hk (.inl rfl)); have HX3 := Aside0.mk (hk.blk HX2.out HNE.out (by simp)); have c0 := cellAt (i := 0) HX3.out rfl; have c1 := cellAt (i := 1) HX3.out rfl; have c2 := cellAt (i := 2) HX3.out rfl; have c3 := cellAt (i := 3) HX3.out rfl; have c4 := cellAt (i := 4) HX3.out rfl;  clear hi hb hk))
  have HXS := Aside0.mk (show True from trivial)
  clear c0 c1 c2 c3 c4
  obtain ⟨ys, hys⟩ : ∃ ys, ys = xs ++ vB n ep rep mem ++ Pure.putL (l.length : Int) 1 := ⟨_, rfl⟩
  rw [← hys] at HI3
  have HYL := Aside0.mk (show ys.length ≤ 2000 by have := HLL.out; rw [hys]; simp only [List.length_append, Pure.putL_length, vB_length]; omega)
  have HYS := Aside0.mk hys
  clear hys
  go_loopg [24] (l.length + 1) (fun kq v24 wr => ∃ j : Int, v24 = .int .i64 j ∧ Aside0 (j + (kq : Int) = (l.length : Int) + 1) ∧ Aside0 (0 ≤ j ∧ j ≤ l.length) ∧ Aside0 (IsW w0 wr g (ys ++ (l.take j.toNat).flatMap sB)) ∧ Aside0 (Below w0.heap.size w0 wr) ∧ Aside0 (KeepBut w wr g none))
  case atStart => exact ⟨0, rfl, ⟨by omega⟩, ⟨by omega⟩, ⟨by rw [Int.toNat_zero, List.take_zero, List.flatMap_nil, List.append_nil]; exact HI3.out⟩, HB3, HK3⟩
  case round =>
    clear HI1 HI2 HI3 HB1 HB2 HB3 HK1 HK2 HK3 HX1 HX2 HX3
    obtain ⟨j, rfl, HK, HLE, HI, HB, HKP⟩ := hrel
    cases gk with
    | zero => exact absurd HK.out (by have := HLE.out; omega)
    | succ k1 =>
      by_cases hi : j < (l.length : Int)
      · have b : decide (j < (l.length : Int)) = true := decide_eq_true hi
        have p0 : (0 : Int) ≤ j := HLE.out.1
        have q0 : j < (l.length : Int) := hi
        have HCi := HC.out _ HKP.out
        obtain ⟨ad, ead, hx0, hx1, hx2, hx3⟩ := at_T27 HCi j p0 q0
        clear HCi
        subst ead
        have HM := Aside0.mk (show sOk (rd_T27 l j) by have := H3.out _ (rd_mem l j.toNat (by omega)); rwa [show ((j.toNat : Nat) : Int) = j by omega] at this)
        have HS := Aside0.mk (show (l.take (j + 1).toNat).flatMap sB = (l.take j.toNat).flatMap sB ++ sB (rd_T27 l j) by have := flatB_snoc l j.toNat (by omega); rwa [show ((j.toNat : Nat) : Int) = j by omega, show j.toNat + 1 = (j + 1).toNat by omega] at this)
        have HLT := Aside0.mk hi
        have HLN := Aside0.mk (show (ys ++ (l.take j.toNat).flatMap sB).length ≤ 1000000 by have h1 := HYL.out; have h2 := H2.out; rw [List.length_append, flatB_length, List.length_take]; omega)
        have q1 : (l.length : Int) ≤ 32 := by have := H2.out; omega
        clear hi
        go_wp2_with (go_at_call 32; (with_reducible refine (writer_view_good g (ys ++ (l.take j.toNat).flatMap sB) _ _ _ _ w0 _ (HI.out.alloc _) (below_alloc HB.out _) HLN.out HM.out.1 HM.out.2).mono ?_); clear hx0 hx1 hx2 hx3; rintro e wq ⟨rfl, hi, hb, hk⟩; have HI2 := Aside0.mk hi; have HB2 := Aside0.mk hb; have HK2 := Aside0.mk ((keep_alloc HKP.out _).trans hk (.inl rfl)); clear hi hb hk)
        go_roundg k1
        case measure => exact Nat.lt_succ_self _
        case rel => exact ⟨j + 1, rfl, ⟨by have := HK.out; omega⟩, ⟨by have := HLT.out; omega⟩, ⟨by rw [HS.out, ← List.append_assoc]; exact HI2.out⟩, HB2, HK2⟩
      · have b : decide (j < (l.length : Int)) = false := decide_eq_false hi
        have hj : j.toNat = l.length := by have := HLE.out; omega
        have hiw := HI.out
        rw [hj, List.take_length, HYS.out] at hiw
        have HIW := Aside0.mk hiw
        clear hiw hj hi
        go_wp2
        go_end0
        refine ⟨rfl, ?_, HB.out, HKP.out⟩
        have h := HIW.out
        simp only [List.append_assoc] at h
        rw [recB]
        simp only [List.append_assoc]
        exact h
set_option maxHeartbeats 8000000 in
set_option maxRecDepth 100000 in
theorem writer_record_bad1 (g : Nat) (xs : List Int) (n ep rep mem : Int) (A : Option Addr) (c : Nat) (l : List S27) (w0 w : World) (hI : IsW w0 w g xs) (hB : Below w0.heap.size w0 w) (hl : xs.length ≤ 1000) (hC : ∀ W', KeepBut w W' g none → Kd.C k27 W' A l.length l) (hb : rep < 0 ∨ 64 ≤ rep) :
    Calls Try.prog 23 #[.pointer (some ⟨g, 0, none⟩), .agg #[.int .u64 n, .int .u64 ep, .int .i64 rep, .int .u64 mem, .slice A l.length c]] w fun e w' => e = gives 1 ∧ Below w0.heap.size w0 w' ∧ KeepBut w w' g none := by
  have HLL := Aside0.mk hl
  have HI0 := Aside0.mk hI
  have HB0 := Aside0.mk hB
  have HC := Aside0.mk hC
  have HBD := Aside0.mk hb
  clear hI hB hl hC hb
  go_enter Try.func23, Try.ntmps23
  go_wp2_with (first | ((with_reducible refine gate_dst (N := 3) rfl ?_); refine box_event ?hg (N := 3) ?hd (cs := #[.int .u64 n, .int .u64 ep, .int .i64 rep, .int .u64 mem, .slice A l.length c]) (t := 30) ?hr ?_; (case hd => rfl); (case hg => rfl); (case hr => first | (go_simp; done) | (go_simp; rfl)); intro gb hg w7 hbox hb; have HI1 := Aside0.mk (HI0.out.below hb); have HB1 := Aside0.mk (below_step HB0.out hb); have HK1 := Aside0.mk (KeepBut.of_below hb g none); have HX1 := Aside0.mk hbox; have HNE := Aside0.mk (show gb ≠ g from by have := HI0.out.lt; omega); have c0 := cellAt (i := 0) HX1.out rfl; have c1 := cellAt (i := 1) HX1.out rfl; have c2 := cellAt (i := 2) HX1.out rfl; have c3 := cellAt (i := 3) HX1.out rfl; have c4 := cellAt (i := 4) HX1.out rfl;  clear hbox hb hg) | (go_at_call 32; (with_reducible refine (writer_view_bad g xs n ep rep mem w0 _ HI1.out HB1.out HBD.out).mono ?_); rintro e w_2 ⟨rfl, hb, hk⟩; have HB2 := Aside0.mk hb; have HK2 := Aside0.mk (HK1.out.trans hk (.inl rfl)); clear hb hk))
  exact ⟨rfl, rfl, HB2.out, HK2.out⟩
set_option maxHeartbeats 8000000 in
set_option maxRecDepth 100000 in
theorem writer_record_bad3 (g : Nat) (xs : List Int) (n ep rep mem : Int) (A : Option Addr) (c : Nat) (l : List S27) (w0 w : World) (hI : IsW w0 w g xs) (hB : Below w0.heap.size w0 w) (hl : xs.length ≤ 1000) (hC : ∀ W', KeepBut w W' g none → Kd.C k27 W' A l.length l) (h0 : 0 ≤ rep) (h1 : rep < 64) (h2 : 32 < l.length) :
    Calls Try.prog 23 #[.pointer (some ⟨g, 0, none⟩), .agg #[.int .u64 n, .int .u64 ep, .int .i64 rep, .int .u64 mem, .slice A l.length c]] w fun e w' => e = gives 3 ∧ Below w0.heap.size w0 w' ∧ KeepBut w w' g none := by
  have HLL := Aside0.mk hl
  have HI0 := Aside0.mk hI
  have HB0 := Aside0.mk hB
  have HC := Aside0.mk hC
  have HR := Aside0.mk (show 0 ≤ rep ∧ rep < 64 from ⟨h0, h1⟩)
  have b0 : decide (32 < l.length) = true := decide_eq_true h2
  have b0i : decide ((32 : Int) < (l.length : Int)) = true := decide_eq_true (by omega)
  clear hI hB hl hC h0 h1 h2
  go_enter Try.func23, Try.ntmps23
  go_wp2_with (first | ((with_reducible refine gate_dst (N := 3) rfl ?_); refine box_event ?hg (N := 3) ?hd (cs := #[.int .u64 n, .int .u64 ep, .int .i64 rep, .int .u64 mem, .slice A l.length c]) (t := 30) ?hr ?_; (case hd => rfl); (case hg => rfl); (case hr => first | (go_simp; done) | (go_simp; rfl)); intro gb hg w7 hbox hb; have HI1 := Aside0.mk (HI0.out.below hb); have HB1 := Aside0.mk (below_step HB0.out hb); have HK1 := Aside0.mk (KeepBut.of_below hb g none); have HX1 := Aside0.mk hbox; have HNE := Aside0.mk (show gb ≠ g from by have := HI0.out.lt; omega); have c0 := cellAt (i := 0) HX1.out rfl; have c1 := cellAt (i := 1) HX1.out rfl; have c2 := cellAt (i := 2) HX1.out rfl; have c3 := cellAt (i := 3) HX1.out rfl; have c4 := cellAt (i := 4) HX1.out rfl;  clear hbox hb hg) | (go_at_call 26; (with_reducible refine (bad_yes 3 _).mono ?_); rintro e w_ ⟨rfl, rfl⟩) | (go_at_call 32; (with_reducible refine (writer_view_good g xs n ep rep mem w0 _ HI1.out HB1.out (by have := HLL.out; (try simp only [List.length_append, Pure.putL_length, vB_length]); omega) HR.out.1 HR.out.2).mono ?_); clear c0 c1 c2 c3 c4; rintro e w_2 ⟨rfl, hi, hb, hk⟩; have HI2 := Aside0.mk hi; have HB2 := Aside0.mk hb; have HK2 := Aside0.mk (HK1.out.trans hk (.inl rfl)); have HX2 := Aside0.mk (hk.blk HX1.out HNE.out (by simp)); have c0 := cellAt (i := 0) HX2.out rfl; have c1 := cellAt (i := 1) HX2.out rfl; have c2 := cellAt (i := 2) HX2.out rfl; have c3 := cellAt (i := 3) HX2.out rfl; have c4 := cellAt (i := 4) HX2.out rfl;  clear hi hb hk))
  exact ⟨rfl, rfl, HB2.out, HK2.out⟩
set_option maxHeartbeats 8000000 in
set_option maxRecDepth 100000 in
theorem writer_record_bad2 (g : Nat) (xs : List Int) (n ep rep mem : Int) (A : Option Addr) (c : Nat) (l : List S27) (w0 w : World) (hI : IsW w0 w g xs) (hB : Below w0.heap.size w0 w) (hl : xs.length ≤ 1000) (hC : ∀ W', KeepBut w W' g none → Kd.C k27 W' A l.length l) (h0 : 0 ≤ rep) (h1 : rep < 64) (h2 : l.length ≤ 32) (h3 : ∃ x ∈ l, ¬ sOk x) :
    Calls Try.prog 23 #[.pointer (some ⟨g, 0, none⟩), .agg #[.int .u64 n, .int .u64 ep, .int .i64 rep, .int .u64 mem, .slice A l.length c]] w fun e w' => e = gives 1 ∧ Below w0.heap.size w0 w' ∧ KeepBut w w' g none := by
  have HLL := Aside0.mk hl
  have HI0 := Aside0.mk hI
  have HB0 := Aside0.mk hB
  have HC := Aside0.mk hC
  have HR := Aside0.mk (show 0 ≤ rep ∧ rep < 64 from ⟨h0, h1⟩)
  have H2 := Aside0.mk h2
  have H3 := Aside0.mk h3
  have b0 : decide (32 < l.length) = false := decide_eq_false (by omega)
  have b0i : decide ((32 : Int) < (l.length : Int)) = false := decide_eq_false (by omega)
  have hwr : IntKind.u64.wrap (l.length : Int) = (l.length : Int) := by simp [IntKind.wrap, IntKind.bits, IntKind.signed]; omega
  have HWR := Aside0.mk hwr
  clear hI hB hl hC h0 h1 h2 h3 hwr
  go_enter Try.func23, Try.ntmps23
  go_wp2_with (first | ((with_reducible refine gate_dst (N := 3) rfl ?_); refine box_event ?hg (N := 3) ?hd (cs := #[.int .u64 n, .int .u64 ep, .int .i64 rep, .int .u64 mem, .slice A l.length c]) (t := 30) ?hr ?_; (case hd => rfl); (case hg => rfl); (case hr => first | (go_simp; done) | (go_simp; rfl)); intro gb hg w7 hbox hb; have HI1 := Aside0.mk (HI0.out.below hb); have HB1 := Aside0.mk (below_step HB0.out hb); have HK1 := Aside0.mk (KeepBut.of_below hb g none); have HX1 := Aside0.mk hbox; have HNE := Aside0.mk (show gb ≠ g from by have := HI0.out.lt; omega); have c0 := cellAt (i := 0) HX1.out rfl; have c1 := cellAt (i := 1) HX1.out rfl; have c2 := cellAt (i := 2) HX1.out rfl; have c3 := cellAt (i := 3) HX1.out rfl; have c4 := cellAt (i := 4) HX1.out rfl;  clear hbox hb hg) | (go_at_call 26; (with_reducible refine (bad_no 3 _).mono ?_); rintro e w_ ⟨rfl, rfl⟩) | (go_at_call 32; (with_reducible refine (writer_view_good g xs n ep rep mem w0 _ HI1.out HB1.out (by have := HLL.out; (try simp only [List.length_append, Pure.putL_length, vB_length]); omega) HR.out.1 HR.out.2).mono ?_); clear c0 c1 c2 c3 c4; rintro e w_2 ⟨rfl, hi, hb, hk⟩; have HI2 := Aside0.mk hi; have HB2 := Aside0.mk hb; have HK2 := Aside0.mk (HK1.out.trans hk (.inl rfl)); have HX2 := Aside0.mk (hk.blk HX1.out HNE.out (by simp)); have c0 := cellAt (i := 0) HX2.out rfl; have c1 := cellAt (i := 1) HX2.out rfl; have c2 := cellAt (i := 2) HX2.out rfl; have c3 := cellAt (i := 3) HX2.out rfl; have c4 := cellAt (i := 4) HX2.out rfl;  clear hi hb hk) | (go_at_call 22; (with_reducible refine (writer_num' g (xs ++ vB n ep rep mem) (IntKind.u64.wrap (l.length : Int)) 1 1 rfl w0 _ HI2.out HB2.out (by have := HLL.out; (try simp only [List.length_append, Pure.putL_length, vB_length]); omega)).mono ?_); clear c0 c1 c2 c3 c4; rintro e w_3 ⟨rfl, hi, hb, hk⟩; rw [HWR.out] at hi; have HI3 := Aside0.mk hi; have HB3 := Aside0.mk hb; have HK3 := Aside0.mk (HK2.out.trans hk (.inl rfl)); have HX3 := Aside0.mk (hk.blk HX2.out HNE.out (by simp)); have c0 := cellAt (i := 0) HX3.out rfl; have c1 := cellAt (i := 1) HX3.out rfl; have c2 := cellAt (i := 2) HX3.out rfl; have c3 := cellAt (i := 3) HX3.out rfl; have c4 := cellAt (i := 4) HX3.out rfl;  clear hi hb hk))
  have HXS := Aside0.mk (show True from trivial)
  clear c0 c1 c2 c3 c4
  obtain ⟨ys, hys⟩ : ∃ ys, ys = xs ++ vB n ep rep mem ++ Pure.putL (l.length : Int) 1 := ⟨_, rfl⟩
  rw [← hys] at HI3
  have HYL := Aside0.mk (show ys.length ≤ 2000 by have := HLL.out; rw [hys]; simp only [List.length_append, Pure.putL_length, vB_length]; omega)
  have HYS := Aside0.mk hys
  clear hys
  go_loopg [24] (l.length + 1) (fun kq v24 wr => ∃ j : Int, v24 = .int .i64 j ∧ Aside0 (j + (kq : Int) = (l.length : Int) + 1) ∧ Aside0 (0 ≤ j ∧ j ≤ l.length) ∧ Aside0 (IsW w0 wr g (ys ++ (l.take j.toNat).flatMap sB)) ∧ Aside0 (Below w0.heap.size w0 wr) ∧ Aside0 (KeepBut w wr g none) ∧ Aside0 (∀ i : Nat, (i : Int) < j → sOk (rd_T27 l i)))
  case atStart => exact ⟨0, rfl, ⟨by omega⟩, ⟨by omega⟩, ⟨by rw [Int.toNat_zero, List.take_zero, List.flatMap_nil, List.append_nil]; exact HI3.out⟩, HB3, HK3, ⟨fun i hi => by omega⟩⟩
  case round =>
    clear HI1 HI2 HI3 HB1 HB2 HB3 HK1 HK2 HK3 HX1 HX2 HX3
    obtain ⟨j, rfl, HK, HLE, HI, HB, HKP, HAL⟩ := hrel
    cases gk with
    | zero => exact absurd HK.out (by have := HLE.out; omega)
    | succ k1 =>
      by_cases hi : j < (l.length : Int)
      · have b : decide (j < (l.length : Int)) = true := decide_eq_true hi
        have p0 : (0 : Int) ≤ j := HLE.out.1
        have q0 : j < (l.length : Int) := hi
        have HCi := HC.out _ HKP.out
        obtain ⟨ad, ead, hx0, hx1, hx2, hx3⟩ := at_T27 HCi j p0 q0
        clear HCi
        subst ead
        have HS := Aside0.mk (show (l.take (j + 1).toNat).flatMap sB = (l.take j.toNat).flatMap sB ++ sB (rd_T27 l j) by have := flatB_snoc l j.toNat (by omega); rwa [show ((j.toNat : Nat) : Int) = j by omega, show j.toNat + 1 = (j + 1).toNat by omega] at this)
        have HLT := Aside0.mk hi
        have HLN := Aside0.mk (show (ys ++ (l.take j.toNat).flatMap sB).length ≤ 1000000 by have h1 := HYL.out; have h2 := H2.out; rw [List.length_append, flatB_length, List.length_take]; omega)
        have q1 : (l.length : Int) ≤ 32 := by have := H2.out; omega
        clear hi
        by_cases hm : sOk (rd_T27 l j)
        · have HM := Aside0.mk hm
          clear hm
          go_wp2_with (go_at_call 32; (with_reducible refine (writer_view_good g (ys ++ (l.take j.toNat).flatMap sB) _ _ _ _ w0 _ (HI.out.alloc _) (below_alloc HB.out _) HLN.out HM.out.1 HM.out.2).mono ?_); clear hx0 hx1 hx2 hx3; rintro e wq ⟨rfl, hi, hb, hk⟩; have HI2 := Aside0.mk hi; have HB2 := Aside0.mk hb; have HK2 := Aside0.mk ((keep_alloc HKP.out _).trans hk (.inl rfl)); clear hi hb hk)
          go_roundg k1
          case measure => exact Nat.lt_succ_self _
          case rel => exact ⟨j + 1, rfl, ⟨by have := HK.out; omega⟩, ⟨by have := HLT.out; omega⟩, ⟨by rw [HS.out, ← List.append_assoc]; exact HI2.out⟩, HB2, HK2, ⟨fun i hi => by rcases Int.lt_or_eq_of_le (show (i : Int) ≤ j by omega) with h | h; exact HAL.out i h; rw [h]; exact HM.out⟩⟩
        · have HM := Aside0.mk (show (rd_T27 l j).f1.f1 < 0 ∨ 64 ≤ (rd_T27 l j).f1.f1 by unfold sOk at hm; omega)
          clear hm
          go_wp2_with (go_at_call 32; (with_reducible refine (writer_view_bad g (ys ++ (l.take j.toNat).flatMap sB) _ _ _ _ w0 _ (HI.out.alloc _) (below_alloc HB.out _) HM.out).mono ?_); clear hx0 hx1 hx2 hx3; rintro e wq ⟨rfl, hb, hk⟩; have HB2 := Aside0.mk hb; have HK2 := Aside0.mk ((keep_alloc HKP.out _).trans hk (.inl rfl)); clear hb hk)
          exact ⟨rfl, rfl, HB2.out, HK2.out⟩
      · obtain ⟨x, hx, hxb⟩ := H3.out
        obtain ⟨i, hi2, rfl⟩ := List.mem_iff_getElem.1 hx
        have := HAL.out i (by have := HLE.out; omega)
        rw [rd_T27, Int.toNat_natCast, List.getD_eq_getElem?_getD, List.getElem?_eq_getElem hi2, Option.getD_some] at this
        exact absurd this hxb
end Go.Proofs.Ytlkemknhmfjdpaa.P
