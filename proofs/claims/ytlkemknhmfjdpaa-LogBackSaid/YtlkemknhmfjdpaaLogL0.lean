import Derived.Test.YtlkemknhmfjdpaaPutLaw
import Derived.Test.YtlkemknhmfjdpaaHandA6
import Derived.Test.YtlkemknhmfjdpaaHandI
import Derived.Test.YtlkemknhmfjdpaaHandZ
import Derived.Lib.Strings
import Derived.WideShapes
import Derived.Laws.BitsAllLaws
import Derived.Laws.BytesArg
/- The log's plain laws: numbers, views, records as bytes. -/
namespace Go.Proofs.Ytlkemknhmfjdpaa.Pure
open Go.RowKit Go.Proofs.Ytlkemknhmfjdpaa.P Go.Proofs.YtlkemknhmfjdpaaW.PrintWords Go.Proofs.YtlkemknhmfjdpaaW.PrintLast Go.Proofs.YtlkemknhmfjdpaaW.PrintMore
set_option linter.unusedVariables false
set_option linter.unusedSimpArgs false

abbrev D (s : ByteArray) : List UInt8 := s.data.toList
theorem D_size (s : ByteArray) : (D s).length = s.size := Array.length_toList
theorem D_append (a b : ByteArray) : D (a ++ b) = D a ++ D b := by
  show (a ++ b).data.toList = a.data.toList ++ b.data.toList
  rw [ByteArray.data_append, Array.toList_append]
theorem D_extract (s : ByteArray) (a b : Nat) : D (s.extract a b) = ((D s).drop a).take (b - a) := Lib.extract_data s a b
theorem D_inj {a b : ByteArray} (h : D a = D b) : a = b := WideShapes.bytes_inj h
theorem u64_wrap (n : Int) : IntKind.u64.wrap n = n % 18446744073709551616 := by simp [IntKind.wrap, IntKind.bits, IntKind.signed]
theorem wf_i64 {a : Int} (h : (Lit.int .i64 a).wf = true) : -9223372036854775808 ≤ a ∧ a ≤ 9223372036854775807 := by
  simp only [Lit.wf, Bool.and_eq_true, decide_eq_true_eq] at h
  exact h
theorem wf_u64 {a : Int} (h : (Lit.int .u64 a).wf = true) : 0 ≤ a ∧ a ≤ 18446744073709551615 := by
  simp only [Lit.wf, Bool.and_eq_true, decide_eq_true_eq] at h
  exact h
/-- The number of some bytes. -/
def valN (l : List UInt8) : Nat := l.foldl (fun v c => v * 256 + c.toNat) 0
theorem valN_snoc (l : List UInt8) (c : UInt8) : valN (l ++ [c]) = valN l * 256 + c.toNat := by rw [valN, List.foldl_append, List.foldl_cons, List.foldl_nil, valN]
theorem valN_take (l : List UInt8) : ∀ n : Nat, n ≤ l.length → valN (l.take n) < 256 ^ n := by
  intro n
  induction n with
  | zero => intro _; rw [List.take_zero]; exact Nat.one_pos
  | succ n ih =>
    intro hn
    rw [List.take_succ_eq_append_getElem (by omega), valN_snoc, Nat.pow_succ]
    have := ih (by omega)
    have := (l[n]'(by omega)).toNat_lt
    omega
theorem valN_lt (l : List UInt8) : valN l < 256 ^ l.length := by
  have := valN_take l l.length (Nat.le_refl _)
  rwa [List.take_length] at this
theorem pow_le {a : Nat} (h : a ≤ 7) : 256 ^ a ≤ 72057594037927936 := by
  have : 256 ^ a ≤ 256 ^ 7 := Nat.pow_le_pow_right (by omega) h
  exact this
theorem valL_take (l : List UInt8) : ∀ n : Nat, n ≤ l.length → n ≤ 8 → valL (l.take n) = (valN (l.take n) : Int) := by
  intro n
  induction n with
  | zero => intro _ _; rw [List.take_zero]; rfl
  | succ n ih =>
    intro hn h8
    have h0 := ih (by omega) (by omega)
    have h1 := valN_take l n (by omega)
    have h2 := pow_le (show n ≤ 7 by omega)
    have h3 := (l[n]'(by omega)).toNat_lt
    rw [List.take_succ_eq_append_getElem (by omega), valN_snoc, valL, List.foldl_append, List.foldl_cons, List.foldl_nil]
    change bits .or .u64 (IntKind.u64.wrap (valL (l.take n) * 256)) _ = _
    rw [h0, u64_wrap, show ((valN (l.take n) : Int) * 256) % 18446744073709551616 = ((valN (l.take n) * 256 : Nat) : Int) by omega, u64_or_nat _ _ (by omega) (by omega)]
    have := Nat.two_pow_add_eq_or_of_lt (i := 8) (b := (l[n]'(by omega)).toNat) (by omega) (valN (l.take n))
    rw [show valN (l.take n) * 256 = 2 ^ 8 * valN (l.take n) by omega, ← this]
def toB (l : List Int) : List UInt8 := l.map fun n => UInt8.ofNat n.toNat
theorem toB_append (a b : List Int) : toB (a ++ b) = toB a ++ toB b := List.map_append
theorem D_strOfNums (l : List Int) : D (strOfNums l) = toB l := rfl
theorem toB_bytesOf (s : ByteArray) : toB (bytesOf s) = D s := by
  unfold toB bytesOf D
  rw [List.map_map]
  conv => rhs; rw [← List.map_id s.data.toList]
  apply List.map_congr_left
  intro x _
  simp
theorem putL_succ (v : Nat) (n : Nat) : putL (v : Int) (n + 1) = putL ((v / 256 : Nat) : Int) n ++ [((v % 256 : Nat) : Int)] := by
  unfold putL
  rw [List.range_succ, List.map_append]
  congr 1
  · apply List.map_congr_left
    intro j hj
    rw [List.mem_range] at hj
    unfold byteAt
    have e : 8 * (n + 1 - 1 - j) = 8 + 8 * (n - 1 - j) := by omega
    rw [e, Int.pow_add]
    have : ((v / 256 : Nat) : Int) = (v : Int) / 2 ^ 8 := by omega
    rw [this, Int.ediv_ediv_of_nonneg (by omega)]
  · simp [byteAt]
theorem valN_putL : ∀ (n v : Nat), valN (toB (putL (v : Int) n)) = v % 256 ^ n
  | 0, v => by simp [putL, toB, valN, Nat.mod_one]
  | n + 1, v => by
    rw [putL_succ, toB_append]
    show valN (toB (putL ((v / 256 : Nat) : Int) n) ++ [UInt8.ofNat ((v % 256 : Nat) : Int).toNat]) = _
    rw [valN_snoc, valN_putL n (v / 256), Int.toNat_natCast]
    have h1 : (UInt8.ofNat (v % 256)).toNat = v % 256 := by simp
    rw [h1, Nat.pow_succ, Nat.mul_comm (256 ^ n) 256, Nat.mod_mul]
    omega
theorem putL_len (v : Int) (n : Nat) : (toB (putL v n)).length = n := by simp [toB, putL_length]
/-- The bytes of n from p on. -/
def sl (s : ByteArray) (p n : Nat) : List UInt8 := ((D s).drop p).take n
theorem sl_len {s : ByteArray} {p n : Nat} (h : p + n ≤ s.size) : (sl s p n).length = n := by
  rw [sl, List.length_take, List.length_drop, D_size]; omega
theorem sl_step {s : ByteArray} (p n : Nat) : (D s).drop p = sl s p n ++ (D s).drop (p + n) := by
  rw [sl, ← List.drop_drop, List.take_append_drop]
theorem sl_add (s : ByteArray) (p n m : Nat) : sl s p (n + m) = sl s p n ++ sl s (p + n) m := by
  rw [sl, sl, sl, List.take_add, List.drop_drop]
/-- A number that is read. -/
theorem numAt_sl {s : ByteArray} (p n : Nat) (h8 : n ≤ 8) (hp : p + n ≤ s.size) : numAt s p n = (valN (sl s p n) : Int) := by
  have h := valL_take (sl s p n) n (by rw [sl_len hp]; omega) h8
  rw [List.take_of_length_le (by rw [sl_len hp]; omega)] at h
  rw [← h, numAt]
  congr 1
  have e1 : ((p : Int)).toNat = p := by omega
  have e2 : ((p : Int) + (n : Int)).toNat - p = n := by omega
  show D _ = _
  rw [D_extract, e1, e2, sl]
theorem numAt_range {s : ByteArray} (p n : Nat) (h8 : n ≤ 8) (hp : p + n ≤ s.size) : 0 ≤ numAt s p n ∧ numAt s p n < ((256 ^ n : Nat) : Int) := by
  rw [numAt_sl p n h8 hp]
  have := valN_lt (sl s p n)
  rw [sl_len hp] at this
  omega
theorem toB_putL_valN : ∀ (n : Nat) (l : List UInt8), l.length = n → toB (putL (valN l : Int) n) = l
  | 0, l, h => by
    obtain rfl := List.length_eq_zero_iff.1 h
    rfl
  | n + 1, l, h => by
    obtain ⟨m, c, rfl⟩ : ∃ m c, l = m ++ [c] := ⟨l.dropLast, l.getLast (by intro e; rw [e] at h; simp at h), (List.dropLast_concat_getLast _).symm⟩
    have hm : m.length = n := by simpa using h
    have hc := c.toNat_lt
    rw [valN_snoc, putL_succ, toB_append, show (valN m * 256 + c.toNat) / 256 = valN m by omega, show (valN m * 256 + c.toNat) % 256 = c.toNat by omega, toB_putL_valN n m hm]
    congr 1
    simp [toB]
/-- A number that is read, put again. -/
theorem put_num {s : ByteArray} (p n : Nat) (h8 : n ≤ 8) (hp : p + n ≤ s.size) : toB (putL (numAt s p n) n) = sl s p n := by
  rw [numAt_sl p n h8 hp]
  exact toB_putL_valN n _ (sl_len hp)
/-- A number that was put, read. -/
theorem num_put {s : ByteArray} {p n : Nat} {v : Int} {A B : List UInt8} (h8 : n ≤ 8) (hs : D s = A ++ toB (putL v n) ++ B) (hA : A.length = p) (h0 : 0 ≤ v) (h1 : v < ((256 ^ n : Nat) : Int)) : numAt s p n = v := by
  have hl : (D s).length = p + n + B.length := by rw [hs, List.length_append, List.length_append, hA, putL_len]
  rw [numAt_sl p n h8 (by rw [← D_size, hl]; omega)]
  have : sl s p n = toB (putL v n) := by
    rw [sl, hs, List.append_assoc, List.drop_append_of_le_length (by omega), ← hA, List.drop_length, List.nil_append, List.take_append_of_le_length (by rw [putL_len]; omega), List.take_of_length_le (by rw [putL_len]; omega)]
  obtain ⟨u, rfl⟩ : ∃ u : Nat, v = (u : Int) := ⟨v.toNat, by omega⟩
  rw [this, valN_putL, Nat.mod_eq_of_lt (by omega)]
end Go.Proofs.Ytlkemknhmfjdpaa.Pure
/- The log's plain laws: views and records as bytes, and back. -/
namespace Go.Proofs.Ytlkemknhmfjdpaa.Pure
open Go.RowKit Go.Proofs.Ytlkemknhmfjdpaa.P Go.Proofs.YtlkemknhmfjdpaaW.PrintWords Go.Proofs.YtlkemknhmfjdpaaW.PrintLast Go.Proofs.YtlkemknhmfjdpaaW.PrintMore
set_option linter.unusedVariables false
set_option linter.unusedSimpArgs false

theorem i64_small {x : Int} (h0 : 0 ≤ x) (h1 : x < 65536) : IntKind.i64.wrap x = x := by simp [IntKind.wrap, IntKind.bits, IntKind.signed]; omega
theorem u32_small {x : Int} (h0 : 0 ≤ x) (h1 : x < 4294967296) : IntKind.u32.wrap x = x := by simp [IntKind.wrap, IntKind.bits, IntKind.signed]; omega
/-! ### What was read, put again -/
theorem put1 {s : ByteArray} (p : Nat) (h : p + 1 ≤ s.size) : toB (putL (numAt s p 1) 1) = sl s p 1 := put_num p 1 (by decide) h
theorem put2 {s : ByteArray} (p : Nat) (h : p + 2 ≤ s.size) : toB (putL (numAt s p 2) 2) = sl s p 2 := put_num p 2 (by decide) h
theorem put4 {s : ByteArray} (p : Nat) (h : p + 4 ≤ s.size) : toB (putL (numAt s p 4) 4) = sl s p 4 := put_num p 4 (by decide) h
theorem put8 {s : ByteArray} (p : Nat) (h : p + 8 ≤ s.size) : toB (putL (numAt s p 8) 8) = sl s p 8 := put_num p 8 (by decide) h
theorem rng1 {s : ByteArray} (p : Nat) (h : p + 1 ≤ s.size) : 0 ≤ numAt s p 1 ∧ numAt s p 1 < 256 := numAt_range p 1 (by decide) h
theorem rng2 {s : ByteArray} (p : Nat) (h : p + 2 ≤ s.size) : 0 ≤ numAt s p 2 ∧ numAt s p 2 < 65536 := numAt_range p 2 (by decide) h
theorem rng4 {s : ByteArray} (p : Nat) (h : p + 4 ≤ s.size) : 0 ≤ numAt s p 4 ∧ numAt s p 4 < 4294967296 := numAt_range p 4 (by decide) h
theorem put_view {s : ByteArray} (p : Nat) (h : viewE s p = 0) : toB (sB (P.viewAt s p)) = sl s p 25 ∧ sOk (P.viewAt s p) := by
  obtain ⟨h1, h2⟩ := viewE_zero h
  have e8 : (p : Int) + 8 = ((p + 8 : Nat) : Int) := by omega
  have e16 : (p : Int) + 16 = ((p + 16 : Nat) : Int) := by omega
  have e17 : (p : Int) + 17 = ((p + 17 : Nat) : Int) := by omega
  have r := rng1 (s := s) (p + 16) (by omega)
  have w : IntKind.i64.wrap (numAt s ((p + 16 : Nat) : Int) 1) = numAt s ((p + 16 : Nat) : Int) 1 := i64_small r.1 (by omega)
  rw [e16] at h2
  have hb : sB (P.viewAt s p) = putL (numAt s p 8) 8 ++ putL (numAt s ((p : Int) + 8) 8) 8 ++ putL (IntKind.i64.wrap (numAt s ((p : Int) + 16) 1)) 1 ++ putL (numAt s ((p : Int) + 17) 8) 8 := by simp only [sB, vB, P.viewAt]
  have c1 : sl s p 25 = sl s p 8 ++ sl s (p + 8) 17 := sl_add s p 8 17
  have c2 : sl s (p + 8) 17 = sl s (p + 8) 8 ++ sl s (p + 16) 9 := sl_add s (p + 8) 8 9
  have c3 : sl s (p + 16) 9 = sl s (p + 16) 1 ++ sl s (p + 17) 8 := sl_add s (p + 16) 1 8
  rw [hb, e8, e16, e17, w]
  constructor
  · rw [toB_append, toB_append, toB_append, put8 p (by omega), put8 (p + 8) (by omega), put1 (p + 16) (by omega), put8 (p + 17) (by omega), c1, c2, c3]
    simp only [List.append_assoc]
  · simp only [sOk, P.viewAt]
    rw [e16]
    exact ⟨by rw [w]; exact r.1, h2⟩
theorem views_len (s : ByteArray) : ∀ (n : Nat) (p : Int), (viewsAt s n p).length = n
  | 0, _ => rfl
  | n + 1, p => by rw [viewsAt, List.length_cons, views_len s n]
theorem put_views {s : ByteArray} : ∀ (n p : Nat), viewsE s n p = 0 → toB ((viewsAt s n p).flatMap sB) = sl s p (25 * n) ∧ ∀ x ∈ viewsAt s n p, sOk x
  | 0, p, _ => ⟨by simp [viewsAt, toB, sl], fun x hx => by simp [viewsAt] at hx⟩
  | n + 1, p, h => by
    rw [viewsE] at h
    by_cases hv : viewE s p = 0
    · rw [if_pos hv] at h
      have e : (p : Int) + 25 = ((p + 25 : Nat) : Int) := by omega
      rw [e] at h
      have ih := put_views n (p + 25) h
      have hw := put_view p hv
      rw [viewsAt, e]
      refine ⟨?_, fun x hx => ?_⟩
      · rw [List.flatMap_cons, toB_append, hw.1, ih.1, show 25 * (n + 1) = 25 + 25 * n by omega, sl_add]
      · rcases List.mem_cons.1 hx with rfl | hx
        · exact hw.2
        · exact ih.2 x hx
    · rw [if_neg hv] at h
      exact absurd h hv
theorem recN_in {s : ByteArray} (p : Nat) (h : p + 26 ≤ s.size) : recN s p = numAt s ((p + 25 : Nat) : Int) 1 ∧ 0 ≤ recN s p := by
  have r := rng1 (s := s) (p + 25) (by omega)
  have w : recN s p = numAt s ((p + 25 : Nat) : Int) 1 := by
    rw [recN, show (p : Int) + 25 = ((p + 25 : Nat) : Int) by omega]
    exact i64_small r.1 (by omega)
  exact ⟨w, by rw [w]; exact r.1⟩
theorem put_rec {s : ByteArray} (p : Nat) (h : recE s p = 0) :
    toB (recB (P.viewAt s p).f0 (P.viewAt s p).f1.f0 (P.viewAt s p).f1.f1 (P.viewAt s p).f2 (viewsAt s (recN s p).toNat ((p : Int) + 26))) = sl s p (26 + 25 * (recN s p).toNat) ∧ sOk (P.viewAt s p) ∧ (viewsAt s (recN s p).toNat ((p : Int) + 26)).length ≤ 32 ∧ ∀ x ∈ viewsAt s (recN s p).toNat ((p : Int) + 26), sOk x := by
  obtain ⟨h1, h2, h3, h4⟩ := recE_zero h
  obtain ⟨w, w0⟩ := recN_in (s := s) p (by omega)
  have e : (p : Int) + 26 = ((p + 26 : Nat) : Int) := by omega
  rw [e] at h4 ⊢
  have hv := put_view p h1
  have hs := put_views (recN s p).toNat (p + 26) h4
  refine ⟨?_, hv.2, by rw [views_len]; omega, hs.2⟩
  have hb : ∀ l : List S27, recB (P.viewAt s p).f0 (P.viewAt s p).f1.f0 (P.viewAt s p).f1.f1 (P.viewAt s p).f2 l = sB (P.viewAt s p) ++ putL (l.length : Int) 1 ++ l.flatMap sB := fun l => by simp only [recB, sB]
  have hn : (((recN s p).toNat : Nat) : Int) = numAt s ((p + 25 : Nat) : Int) 1 := by rw [← w]; omega
  have c1 : sl s p (26 + 25 * (recN s p).toNat) = sl s p 26 ++ sl s (p + 26) (25 * (recN s p).toNat) := sl_add s p 26 _
  have c2 : sl s p 26 = sl s p 25 ++ sl s (p + 25) 1 := sl_add s p 25 1
  rw [hb, views_len, toB_append, toB_append, hv.1, hs.1, hn, put1 (p + 25) (by omega), c1, c2]
theorem sl_all {s : ByteArray} {n : Nat} (h : n = s.size) : sl s 0 n = D s := by
  rw [sl, List.drop_zero, List.take_of_length_le (by rw [D_size]; omega)]
theorem str_eq {xs : List Int} {s : ByteArray} (h : toB xs = D s) : strOfNums xs = s := D_inj h
/-- What Parse read is printed to the same bytes. -/
theorem parse_print (s : ByteArray) (h : parseE s = 0) (hs : s.size ≤ 1000000) : log_Print.f (numAt s 1 8) (IntKind.u32.wrap (numAt s 9 4)) (P.viewAt s 13).f0 (P.viewAt s 13).f1.f0 (P.viewAt s 13).f1.f1 (P.viewAt s 13).f2 (viewsAt s (recN s 13).toNat (13 + 26)) = some (s, 0) := by
  unfold parseE at h
  by_cases d1 : s.size < 1
  · rw [if_pos d1] at h; cases h
  rw [if_neg d1] at h
  by_cases d2 : numAt s 0 1 ≠ 1
  · rw [if_pos d2] at h; cases h
  rw [if_neg d2] at h
  by_cases d3 : s.size < 13
  · rw [if_pos d3] at h; cases h
  rw [if_neg d3] at h
  by_cases d4 : recE s 13 ≠ 0
  · rw [if_pos d4] at h; exact absurd h d4
  rw [if_neg d4] at h
  by_cases d5 : 13 + 26 + 25 * ((recN s 13).toNat : Int) < s.size
  · rw [if_pos d5] at h; cases h
  have d2' : numAt s 0 1 = 1 := Classical.byContradiction d2
  have d4' : recE s ((13 : Nat) : Int) = 0 := Classical.byContradiction d4
  have hend := recE_end (p := 13) d4'
  have hr := put_rec 13 d4'
  have r9 : 0 ≤ numAt s 9 4 ∧ numAt s 9 4 < 4294967296 := rng4 9 (by omega)
  have w9 : IntKind.u32.wrap (numAt s 9 4) = numAt s 9 4 := u32_small r9.1 r9.2
  rw [w9, log_Print.f, if_pos ⟨r9.1, by omega⟩, logPrint]
  have o := hr.2.1
  rw [if_neg (by have : 0 ≤ (P.viewAt s 13).f1.f1 ∧ (P.viewAt s 13).f1.f1 < 64 := o; omega), if_neg (show ¬ 32 < (viewsAt s (recN s 13).toNat (13 + 26)).length from by have := hr.2.2.1; exact Nat.not_lt.2 this), if_pos (show ∀ x ∈ viewsAt s (recN s 13).toNat (13 + 26), sOk x from hr.2.2.2)]
  congr 2
  refine str_eq ?_
  rw [List.nil_append, toB_append, toB_append, toB_append]
  rw [show toB (recB (P.viewAt s 13).f0 (P.viewAt s 13).f1.f0 (P.viewAt s 13).f1.f1 (P.viewAt s 13).f2 (viewsAt s (recN s 13).toNat (13 + 26))) = sl s 13 (26 + 25 * (recN s 13).toNat) from hr.1]
  rw [show toB (putL 1 1) = sl s 0 1 from (by have := put1 (s := s) 0 (by omega); rw [show numAt s ((0 : Nat) : Int) 1 = 1 from d2'] at this; exact this), show toB (putL (numAt s 1 8) 8) = sl s 1 8 from put8 1 (by omega), show toB (putL (numAt s 9 4) 4) = sl s 9 4 from put4 9 (by omega)]
  have c1 : sl s 0 (13 + (26 + 25 * (recN s 13).toNat)) = sl s 0 13 ++ sl s 13 (26 + 25 * (recN s 13).toNat) := by
    have := sl_add s 0 13 (26 + 25 * (recN s 13).toNat)
    rwa [Nat.zero_add] at this
  have c2 : sl s 0 13 = sl s 0 9 ++ sl s 9 4 := sl_add s 0 9 4
  have c3 : sl s 0 9 = sl s 0 1 ++ sl s 1 8 := sl_add s 0 1 8
  rw [← sl_all (s := s) (n := 13 + (26 + 25 * (recN s 13).toNat)) (by omega), c1, c2, c3]
end Go.Proofs.Ytlkemknhmfjdpaa.Pure
/- The log's plain laws: what ParseItem read is printed to the same bytes. -/
namespace Go.Proofs.Ytlkemknhmfjdpaa.Pure
open Go.RowKit Go.Proofs.Ytlkemknhmfjdpaa.P Go.Proofs.YtlkemknhmfjdpaaW.PrintWords Go.Proofs.YtlkemknhmfjdpaaW.PrintLast Go.Proofs.YtlkemknhmfjdpaaW.PrintMore
set_option linter.unusedVariables false
set_option linter.unusedSimpArgs false

theorem txt_D {s : ByteArray} (p : Nat) (h : p ≤ s.size) : D (txtAt s p) = sl s p (s.size - p) ∧ (txtAt s p).size = s.size - p := by
  have e1 : ((p : Int)).toNat = p := by omega
  have e2 : ((p : Int) + ((s.size : Int) - p)).toNat - p = s.size - p := by omega
  have hd : D (txtAt s p) = sl s p (s.size - p) := by rw [txtAt, D_extract, e1, e2, sl]
  exact ⟨hd, by rw [← D_size, hd, sl_len (by omega)]⟩
theorem cut0 {s : ByteArray} (n : Nat) (h : n ≤ s.size) : sl s 0 n ++ sl s n (s.size - n) = D s := by
  have := sl_add s 0 n (s.size - n)
  rw [Nat.zero_add] at this
  rw [← this]
  exact sl_all (by omega)
theorem kind_put {s : ByteArray} (k : Int) (h : 1 ≤ s.size) (hk : kindN s = k) : toB (putL k 1) = sl s 0 1 := by
  have r : 0 ≤ numAt s ((0 : Nat) : Int) 1 ∧ numAt s ((0 : Nat) : Int) 1 < 256 := rng1 0 (by omega)
  have w : IntKind.i64.wrap (numAt s ((0 : Nat) : Int) 1) = numAt s ((0 : Nat) : Int) 1 := i64_small r.1 (by omega)
  have hk2 : IntKind.i64.wrap (numAt s ((0 : Nat) : Int) 1) = k := hk
  rw [w] at hk2
  rw [← hk2]
  exact put1 0 (by omega)
theorem item_print1 (s : ByteArray) (h1 : 1 ≤ s.size) (h2 : s.size ≤ 1024) (hk : kindN s = 1) : log_PrintItem.f 1 (txtAt s 1) 0 0 false false 0 0 0 0 [] 0 0 0 0 0 0 0 = some (s, 0) := by
  obtain ⟨hd, hz⟩ := txt_D (s := s) 1 h1
  have hz' : (txtAt s 1).size = s.size - 1 := hz
  have hd' : D (txtAt s 1) = sl s 1 (s.size - 1) := hd
  rw [log_PrintItem.f, if_pos ⟨by decide, by omega⟩, logItem, if_neg (by decide), if_neg (by decide), if_pos rfl, if_pos (by omega)]
  congr 2
  refine str_eq ?_
  rw [List.nil_append, toB_append, toB_bytesOf, hd', kind_put 1 h1 hk, cut0 1 h1]
theorem item_print4 (s : ByteArray) (h1 : 13 ≤ s.size) (h2 : s.size ≤ 1024) (hk : kindN s = 4) : log_PrintItem.f 4 (txtAt s 13) 0 0 false false 0 0 0 0 [] 0 0 0 0 (numAt s 1 8) (IntKind.i64.wrap (numAt s 9 2)) (IntKind.i64.wrap (numAt s 11 2)) = some (s, 0) := by
  obtain ⟨hd, hz⟩ := txt_D (s := s) 13 h1
  have hz' : (txtAt s 13).size = s.size - 13 := hz
  have hd' : D (txtAt s 13) = sl s 13 (s.size - 13) := hd
  have r9 : 0 ≤ numAt s 9 2 ∧ numAt s 9 2 < 65536 := rng2 9 (by omega)
  have r11 : 0 ≤ numAt s 11 2 ∧ numAt s 11 2 < 65536 := rng2 11 (by omega)
  rw [i64_small r9.1 r9.2, i64_small r11.1 r11.2]
  rw [log_PrintItem.f, if_pos ⟨by decide, by omega⟩, logItem, if_neg (by decide), if_neg (by decide), if_neg (by decide), if_neg (by decide), if_neg (by decide), if_neg (by omega), if_pos (by omega)]
  congr 2
  refine str_eq ?_
  have c2 : sl s 0 13 = sl s 0 11 ++ sl s 11 2 := sl_add s 0 11 2
  have c3 : sl s 0 11 = sl s 0 9 ++ sl s 9 2 := sl_add s 0 9 2
  have c4 : sl s 0 9 = sl s 0 1 ++ sl s 1 8 := sl_add s 0 1 8
  rw [List.nil_append, toB_append, toB_append, toB_append, toB_append, toB_bytesOf, hd', kind_put 4 (by omega) hk, show toB (putL (numAt s 1 8) 8) = sl s 1 8 from put8 1 (by omega), show toB (putL (numAt s 9 2) 2) = sl s 9 2 from put2 9 (by omega), show toB (putL (numAt s 11 2) 2) = sl s 11 2 from put2 11 (by omega), ← c4, ← c3, ← c2, cut0 13 h1]
theorem item_print3 (s : ByteArray) (h2 : 26 = s.size) (hk : kindN s = 3) (hv : viewE s 1 = 0) : log_PrintItem.f 3 ⟨#[]⟩ 0 0 false false 0 0 0 0 [] (P.viewAt s 1).f0 (P.viewAt s 1).f1.f0 (P.viewAt s 1).f1.f1 (P.viewAt s 1).f2 0 0 0 = some (s, 0) := by
  have hp := put_view (s := s) 1 hv
  have o : 0 ≤ (P.viewAt s 1).f1.f1 ∧ (P.viewAt s 1).f1.f1 < 64 := hp.2
  have hb : toB (sB (P.viewAt s 1)) = sl s 1 25 := hp.1
  rw [log_PrintItem.f, if_pos ⟨by decide, by decide⟩, logItem, if_neg (by decide), if_neg (by decide), if_neg (by decide), if_neg (by decide), if_pos rfl, if_neg (by omega)]
  congr 2
  refine str_eq ?_
  have hb2 : toB (vB (P.viewAt s 1).f0 (P.viewAt s 1).f1.f0 (P.viewAt s 1).f1.f1 (P.viewAt s 1).f2) = sl s 1 25 := hb
  rw [List.nil_append, toB_append, kind_put 3 (by omega) hk, hb2, show 25 = s.size - 1 by omega, cut0 1 (by omega)]
theorem flags_back (x : Int) (h0 : 0 ≤ x) (h3 : x ≤ 3) : flagsN (bits BinOp.and IntKind.u64 x 1 != 0) (bits BinOp.and IntKind.u64 x 2 != 0) = x := by
  obtain rfl | rfl | rfl | rfl : x = 0 ∨ x = 1 ∨ x = 2 ∨ x = 3 := by omega
  all_goals kernel_rfl
theorem item_print2 (s : ByteArray) (h1 : 14 ≤ s.size) (hs : s.size ≤ 1024) (hk : kindN s = 2) (hf : numAt s 13 1 ≤ 3) (hr : recE s 14 = 0) (he : 14 + 26 + 25 * ((recN s 14).toNat : Int) = s.size) :
    log_PrintItem.f 2 ⟨#[]⟩ (IntKind.u32.wrap (numAt s 1 4)) (numAt s 5 8) (bits BinOp.and IntKind.u64 (numAt s 13 1) 1 != 0) (bits BinOp.and IntKind.u64 (numAt s 13 1) 2 != 0) (P.viewAt s 14).f0 (P.viewAt s 14).f1.f0 (P.viewAt s 14).f1.f1 (P.viewAt s 14).f2 (viewsAt s (recN s 14).toNat (14 + 26)) 0 0 0 0 0 0 0 = some (s, 0) := by
  obtain ⟨p1, p2, p3, p4⟩ := put_rec (s := s) 14 hr
  have q1 : toB (recB (P.viewAt s 14).f0 (P.viewAt s 14).f1.f0 (P.viewAt s 14).f1.f1 (P.viewAt s 14).f2 (viewsAt s (recN s 14).toNat (14 + 26))) = sl s 14 (26 + 25 * (recN s 14).toNat) := p1
  have q2 : 0 ≤ (P.viewAt s 14).f1.f1 ∧ (P.viewAt s 14).f1.f1 < 64 := p2
  have q3 : (viewsAt s (recN s 14).toNat (14 + 26)).length ≤ 32 := p3
  have q4 : ∀ x ∈ viewsAt s (recN s 14).toNat (14 + 26), sOk x := p4
  have r4 : 0 ≤ numAt s 1 4 ∧ numAt s 1 4 < 4294967296 := rng4 1 (by omega)
  have r13 : 0 ≤ numAt s 13 1 ∧ numAt s 13 1 < 256 := rng1 13 (by omega)
  have w4 : IntKind.u32.wrap (numAt s 1 4) = numAt s 1 4 := u32_small r4.1 r4.2
  have q5 : ¬ 32 < (viewsAt s (recN s 14).toNat (14 + 26)).length := Nat.not_lt.2 q3
  rw [w4, log_PrintItem.f, if_pos ⟨⟨r4.1, by omega⟩, by decide⟩, logItem, if_neg (by decide), if_neg (by decide), if_neg (by decide), if_pos rfl, if_neg (by omega), if_neg q5, if_pos q4]
  congr 2
  refine str_eq ?_
  have c1 : sl s 0 14 = sl s 0 13 ++ sl s 13 1 := sl_add s 0 13 1
  have c2 : sl s 0 13 = sl s 0 5 ++ sl s 5 8 := sl_add s 0 5 8
  have c3 : sl s 0 5 = sl s 0 1 ++ sl s 1 4 := sl_add s 0 1 4
  rw [List.nil_append, toB_append, toB_append, toB_append, toB_append, q1, flags_back _ r13.1 hf, kind_put 2 (by omega) hk, show toB (putL (numAt s 1 4) 4) = sl s 1 4 from put4 1 (by omega), show toB (putL (numAt s 5 8) 8) = sl s 5 8 from put8 5 (by omega), show toB (putL (numAt s 13 1) 1) = sl s 13 1 from put1 13 (by omega), ← c3, ← c2, ← c1, show 26 + 25 * (recN s 14).toNat = s.size - 14 by omega, cut0 14 h1]
/-- The good ways of ParseItem. -/
theorem itemE_zero {s : ByteArray} (h : itemE s = 0) : 1 ≤ s.size ∧ s.size ≤ 1024 ∧ (kindN s = 1 ∨ (kindN s = 2 ∧ 14 ≤ s.size ∧ numAt s 13 1 ≤ 3 ∧ recE s 14 = 0 ∧ 14 + 26 + 25 * ((recN s 14).toNat : Int) = s.size) ∨ (kindN s = 3 ∧ viewE s 1 = 0 ∧ 26 = s.size) ∨ (kindN s = 4 ∧ 13 ≤ s.size)) := by
  unfold itemE at h
  by_cases d1 : s.size < 1
  · rw [if_pos d1] at h; cases h
  rw [if_neg d1] at h
  by_cases d2 : kindN s < 1 ∨ 4 < kindN s
  · rw [if_pos d2] at h; cases h
  rw [if_neg d2] at h
  by_cases d3 : 1024 < s.size
  · rw [if_pos d3] at h; cases h
  rw [if_neg d3] at h
  refine ⟨by omega, by omega, ?_⟩
  by_cases k1 : kindN s = 1
  · exact .inl k1
  rw [if_neg k1] at h
  by_cases k2 : kindN s = 2
  · rw [if_pos k2] at h
    by_cases c1 : s.size < 14
    · rw [if_pos c1] at h; cases h
    rw [if_neg c1] at h
    by_cases c2 : 3 < numAt s 13 1
    · rw [if_pos c2] at h; cases h
    rw [if_neg c2] at h
    by_cases c3 : recE s 14 ≠ 0
    · rw [if_pos c3] at h; exact absurd h c3
    rw [if_neg c3] at h
    by_cases c4 : 14 + 26 + 25 * ((recN s 14).toNat : Int) < s.size
    · rw [if_pos c4] at h; cases h
    have c3' : recE s 14 = 0 := Classical.byContradiction c3
    exact .inr (.inl ⟨k2, by omega, by omega, c3', by have := recE_end c3'; omega⟩)
  rw [if_neg k2] at h
  by_cases k3 : kindN s = 3
  · rw [if_pos k3] at h
    by_cases c1 : viewE s 1 ≠ 0
    · rw [if_pos c1] at h; exact absurd h c1
    rw [if_neg c1] at h
    by_cases c2 : 26 < s.size
    · rw [if_pos c2] at h; cases h
    have c1' : viewE s 1 = 0 := Classical.byContradiction c1
    exact .inr (.inr (.inl ⟨k3, c1', by have := (viewE_zero c1').1; omega⟩))
  rw [if_neg k3] at h
  by_cases c1 : s.size < 13
  · rw [if_pos c1] at h; cases h
  · exact .inr (.inr (.inr ⟨by omega, by omega⟩))
def printOf (x : ItemT) : Option (ByteArray × Int) := log_PrintItem.f x.1 x.2.1 x.2.2.1 x.2.2.2.1 x.2.2.2.2.1 x.2.2.2.2.2.1 x.2.2.2.2.2.2.1 x.2.2.2.2.2.2.2.1 x.2.2.2.2.2.2.2.2.1 x.2.2.2.2.2.2.2.2.2.1 x.2.2.2.2.2.2.2.2.2.2.1 x.2.2.2.2.2.2.2.2.2.2.2.1 x.2.2.2.2.2.2.2.2.2.2.2.2.1 x.2.2.2.2.2.2.2.2.2.2.2.2.2.1 x.2.2.2.2.2.2.2.2.2.2.2.2.2.2.1 x.2.2.2.2.2.2.2.2.2.2.2.2.2.2.2.1 x.2.2.2.2.2.2.2.2.2.2.2.2.2.2.2.2.1 x.2.2.2.2.2.2.2.2.2.2.2.2.2.2.2.2.2.1
theorem item_print (s : ByteArray) (h : itemE s = 0) : printOf (itemAt s) = some (s, 0) := by
  obtain ⟨h1, h2, hk⟩ := itemE_zero h
  rcases hk with k | ⟨k, a, b, c, d⟩ | ⟨k, a, b⟩ | ⟨k, a⟩
  · rw [itemAt, if_pos k]
    simp only [printOf]
    exact item_print1 s h1 h2 k
  · rw [itemAt, if_neg (by omega), if_pos k]
    simp only [printOf]
    exact item_print2 s a h2 k b c d
  · rw [itemAt, if_neg (by omega), if_neg (by omega), if_pos k]
    simp only [printOf]
    exact item_print3 s b k a
  · rw [itemAt, if_neg (by omega), if_neg (by omega), if_neg (by omega)]
    simp only [printOf]
    exact item_print4 s a h2 k
end Go.Proofs.Ytlkemknhmfjdpaa.Pure
/- The log's plain laws: what was printed is read. -/
namespace Go.Proofs.Ytlkemknhmfjdpaa.Pure
open Go.RowKit Go.Proofs.Ytlkemknhmfjdpaa.P Go.Proofs.YtlkemknhmfjdpaaW.PrintWords Go.Proofs.YtlkemknhmfjdpaaW.PrintLast Go.Proofs.YtlkemknhmfjdpaaW.PrintMore
set_option linter.unusedVariables false
set_option linter.unusedSimpArgs false

theorem get1 {s : ByteArray} {p : Nat} {v : Int} {A B : List UInt8} (hs : D s = A ++ (toB (putL v 1) ++ B)) (hA : A.length = p) (h0 : 0 ≤ v) (h1 : v < 256) : numAt s p 1 = v := num_put (n := 1) (by decide) (by rw [hs, List.append_assoc]) hA h0 h1
theorem get2 {s : ByteArray} {p : Nat} {v : Int} {A B : List UInt8} (hs : D s = A ++ (toB (putL v 2) ++ B)) (hA : A.length = p) (h0 : 0 ≤ v) (h1 : v < 65536) : numAt s p 2 = v := num_put (n := 2) (by decide) (by rw [hs, List.append_assoc]) hA h0 h1
theorem get4 {s : ByteArray} {p : Nat} {v : Int} {A B : List UInt8} (hs : D s = A ++ (toB (putL v 4) ++ B)) (hA : A.length = p) (h0 : 0 ≤ v) (h1 : v < 4294967296) : numAt s p 4 = v := num_put (n := 4) (by decide) (by rw [hs, List.append_assoc]) hA h0 h1
theorem get8 {s : ByteArray} {p : Nat} {v : Int} {A B : List UInt8} (hs : D s = A ++ (toB (putL v 8) ++ B)) (hA : A.length = p) (h0 : 0 ≤ v) (h1 : v < 18446744073709551616) : numAt s p 8 = v := num_put (n := 8) (by decide) (by rw [hs, List.append_assoc]) hA h0 h1
/-- A view within its bounds. -/
def sW (x : S27) : Prop := (0 ≤ x.f0 ∧ x.f0 < 18446744073709551616) ∧ (0 ≤ x.f1.f0 ∧ x.f1.f0 < 18446744073709551616) ∧ (0 ≤ x.f2 ∧ x.f2 < 18446744073709551616)
theorem sB_len (x : S27) : (toB (sB x)).length = 25 := by simp [sB, vB, toB, putL_length]
theorem sB_toB (x : S27) : toB (sB x) = toB (putL x.f0 8) ++ (toB (putL x.f1.f0 8) ++ (toB (putL x.f1.f1 1) ++ toB (putL x.f2 8))) := by
  simp only [sB, vB, toB_append, List.append_assoc]
theorem view_put {s : ByteArray} {p : Nat} {x : S27} {A B : List UInt8} (hs : D s = A ++ (toB (sB x) ++ B)) (hA : A.length = p) (hw : sW x) (ho : sOk x) : viewE s p = 0 ∧ P.viewAt s p = x := by
  have hl : s.size = p + 25 + B.length := by rw [← D_size, hs, List.length_append, List.length_append, sB_len, hA]; omega
  have e8 : (p : Int) + 8 = ((p + 8 : Nat) : Int) := by omega
  have e16 : (p : Int) + 16 = ((p + 16 : Nat) : Int) := by omega
  have e17 : (p : Int) + 17 = ((p + 17 : Nat) : Int) := by omega
  rw [sB_toB] at hs
  obtain ⟨w0, w1, w2⟩ := hw
  have o : 0 ≤ x.f1.f1 ∧ x.f1.f1 < 64 := ho
  have n0 : numAt s p 8 = x.f0 := get8 (A := A) (B := toB (putL x.f1.f0 8) ++ (toB (putL x.f1.f1 1) ++ toB (putL x.f2 8)) ++ B) (by rw [hs]; simp only [List.append_assoc]) hA w0.1 w0.2
  have n1 : numAt s ((p + 8 : Nat) : Int) 8 = x.f1.f0 := get8 (A := A ++ toB (putL x.f0 8)) (B := toB (putL x.f1.f1 1) ++ toB (putL x.f2 8) ++ B) (by rw [hs]; simp only [List.append_assoc]) (by rw [List.length_append, putL_len, hA]) w1.1 w1.2
  have n2 : numAt s ((p + 16 : Nat) : Int) 1 = x.f1.f1 := get1 (A := A ++ toB (putL x.f0 8) ++ toB (putL x.f1.f0 8)) (B := toB (putL x.f2 8) ++ B) (by rw [hs]; simp only [List.append_assoc]) (by rw [List.length_append, List.length_append, putL_len, putL_len, hA]) o.1 (by omega)
  have n3 : numAt s ((p + 17 : Nat) : Int) 8 = x.f2 := get8 (A := A ++ toB (putL x.f0 8) ++ toB (putL x.f1.f0 8) ++ toB (putL x.f1.f1 1)) (B := B) (by rw [hs]; simp only [List.append_assoc]) (by rw [List.length_append, List.length_append, List.length_append, putL_len, putL_len, putL_len, hA]) w2.1 w2.2
  have wi : IntKind.i64.wrap x.f1.f1 = x.f1.f1 := i64_small o.1 (by omega)
  constructor
  · rw [viewE, e16, n2, wi, if_neg (by omega), if_neg (by omega), if_neg (by omega)]
  · rw [P.viewAt, e8, e16, e17, n0, n1, n2, n3, wi]
theorem flat_len : ∀ l : List S27, (toB (l.flatMap sB)).length = 25 * l.length
  | [] => rfl
  | x :: l => by rw [List.flatMap_cons, toB_append, List.length_append, sB_len, flat_len l, List.length_cons]; omega
theorem views_put {s : ByteArray} {B : List UInt8} : ∀ (l : List S27) (p : Nat) (A : List UInt8), D s = A ++ (toB (l.flatMap sB) ++ B) → A.length = p → (∀ x ∈ l, sW x) → (∀ x ∈ l, sOk x) → viewsE s l.length p = 0 ∧ viewsAt s l.length p = l
  | [], p, A, _, _, _, _ => ⟨rfl, rfl⟩
  | x :: l, p, A, hs, hA, hw, ho => by
    rw [List.flatMap_cons, toB_append, List.append_assoc] at hs
    have e25 : (p : Int) + 25 = ((p + 25 : Nat) : Int) := by omega
    have hv := view_put hs hA (hw x List.mem_cons_self) (ho x List.mem_cons_self)
    have ih := views_put (s := s) (B := B) l (p + 25) (A ++ toB (sB x)) (by rw [hs]; simp only [List.append_assoc]) (by rw [List.length_append, sB_len, hA]) (fun y hy => hw y (List.mem_cons_of_mem _ hy)) (fun y hy => ho y (List.mem_cons_of_mem _ hy))
    rw [List.length_cons, viewsE, viewsAt, if_pos hv.1, e25, hv.2, ih.1, ih.2]
    exact ⟨rfl, rfl⟩
theorem rec_put {s : ByteArray} {p : Nat} {n ep rep mem : Int} {l : List S27} {A B : List UInt8} (hs : D s = A ++ (toB (recB n ep rep mem l) ++ B)) (hA : A.length = p) (hx : sW ⟨n, ⟨ep, rep⟩, mem⟩) (hx2 : sOk ⟨n, ⟨ep, rep⟩, mem⟩) (hl : l.length ≤ 32) (hw : ∀ x ∈ l, sW x) (ho : ∀ x ∈ l, sOk x) :
    recE s p = 0 ∧ P.viewAt s p = ⟨n, ⟨ep, rep⟩, mem⟩ ∧ (recN s p).toNat = l.length ∧ viewsAt s (recN s p).toNat ((p : Int) + 26) = l ∧ s.size = p + 26 + 25 * l.length + B.length := by
  have hb : toB (recB n ep rep mem l) = toB (sB ⟨n, ⟨ep, rep⟩, mem⟩) ++ (toB (putL (l.length : Int) 1) ++ toB (l.flatMap sB)) := by simp only [recB, sB, toB_append, List.append_assoc]
  rw [hb] at hs
  have e25 : (p : Int) + 25 = ((p + 25 : Nat) : Int) := by omega
  have e26 : (p : Int) + 26 = ((p + 26 : Nat) : Int) := by omega
  have hz : s.size = p + 26 + 25 * l.length + B.length := by rw [← D_size, hs]; simp only [List.length_append, sB_len, putL_len, flat_len, hA]; omega
  have hv := view_put (A := A) (B := toB (putL (l.length : Int) 1) ++ toB (l.flatMap sB) ++ B) (by rw [hs]; simp only [List.append_assoc]) hA hx hx2
  have n1 : numAt s ((p + 25 : Nat) : Int) 1 = (l.length : Int) := get1 (A := A ++ toB (sB ⟨n, ⟨ep, rep⟩, mem⟩)) (B := toB (l.flatMap sB) ++ B) (by rw [hs]; simp only [List.append_assoc]) (by rw [List.length_append, sB_len, hA]) (by omega) (by omega)
  have hn : recN s p = (l.length : Int) := by
    rw [recN, e25, n1]
    exact i64_small (by omega) (by omega)
  have hnn : (recN s p).toNat = l.length := by omega
  have hvs := views_put (s := s) (B := B) l (p + 26) (A ++ toB (sB ⟨n, ⟨ep, rep⟩, mem⟩) ++ toB (putL (l.length : Int) 1)) (by rw [hs]; simp only [List.append_assoc]) (by rw [List.length_append, List.length_append, sB_len, putL_len, hA]) hw ho
  refine ⟨?_, hv.2, hnn, by rw [hnn, e26]; exact hvs.2, hz⟩
  rw [recE, if_pos hv.1, if_neg (by omega), if_neg (by omega), hnn, e26]
  exact hvs.1
/-- What Print printed is read. -/
theorem print_parse {a0 a1 n ep rep mem : Int} {l : List S27} {t : ByteArray} (h0 : 0 ≤ a0 ∧ a0 < 18446744073709551616) (hx : sW ⟨n, ⟨ep, rep⟩, mem⟩) (hw : ∀ x ∈ l, sW x) (h : log_Print.f a0 a1 n ep rep mem l = some (t, 0)) :
    log_Parse.f t = some (a0, a1, n, ep, rep, mem, l, 0) := by
  rw [log_Print.f] at h
  by_cases h1 : 0 ≤ a1 ∧ a1 ≤ 4294967295
  rotate_left
  · rw [if_neg h1] at h; cases h
  rw [if_pos h1, logPrint] at h
  by_cases d1 : rep < 0 ∨ 64 ≤ rep
  · rw [if_pos d1] at h; simp at h
  rw [if_neg d1] at h
  by_cases d2 : 32 < l.length
  · rw [if_pos d2] at h; simp at h
  rw [if_neg d2] at h
  by_cases d3 : ∀ x ∈ l, sOk x
  rotate_left
  · rw [if_neg d3] at h; simp at h
  rw [if_pos d3] at h
  obtain rfl : strOfNums ([] ++ putL 1 1 ++ putL a0 8 ++ putL a1 4 ++ recB n ep rep mem l) = t := (Prod.mk.inj (Option.some.inj h)).1
  obtain ⟨t, ht⟩ : ∃ t, t = strOfNums ([] ++ putL 1 1 ++ putL a0 8 ++ putL a1 4 ++ recB n ep rep mem l) := ⟨_, rfl⟩
  rw [← ht]
  have hD : D t = toB (putL 1 1) ++ (toB (putL a0 8) ++ (toB (putL a1 4) ++ (toB (recB n ep rep mem l) ++ []))) := by
    rw [ht, D_strOfNums, List.nil_append]
    simp only [toB_append, List.append_assoc, List.append_nil]
  clear ht h
  have r := rec_put (s := t) (p := 13) (A := toB (putL 1 1) ++ toB (putL a0 8) ++ toB (putL a1 4)) (B := []) (by rw [hD]; simp only [List.append_assoc]) (by simp only [List.length_append, putL_len]) hx (show 0 ≤ rep ∧ rep < 64 by omega) (by omega) hw d3
  obtain ⟨r1, r2, r3, r4, r5⟩ := r
  have r1' : recE t 13 = 0 := r1
  have r2' : P.viewAt t 13 = ⟨n, ⟨ep, rep⟩, mem⟩ := r2
  have r3' : (recN t 13).toNat = l.length := r3
  have r4' : viewsAt t (recN t 13).toNat (13 + 26) = l := r4
  have r5' : t.size = 13 + 26 + 25 * l.length := r5
  have n0 : numAt t 0 1 = 1 := get1 (p := 0) (A := []) (by rw [List.nil_append]; exact hD) rfl (by decide) (by decide)
  have n1 : numAt t 1 8 = a0 := get8 (p := 1) (A := toB (putL 1 1)) hD (putL_len _ _) h0.1 h0.2
  have n2 : numAt t 9 4 = a1 := get4 (p := 9) (A := toB (putL 1 1) ++ toB (putL a0 8)) (by rw [hD]; simp only [List.append_assoc]; rfl) (by simp only [List.length_append, putL_len]) h1.1 (by omega)
  have hE : parseE t = 0 := by
    rw [parseE, if_neg (by omega), if_neg (by rw [n0]; decide), if_neg (by omega), if_neg (by rw [r1']; decide), if_neg (by rw [r3']; omega)]
  rw [log_Parse.f, if_pos (by omega), if_pos hE, n1, n2, r4', r2', u32_small h1.1 (by omega)]
end Go.Proofs.Ytlkemknhmfjdpaa.Pure
/- The log's plain laws: what PrintItem printed is read. -/
namespace Go.Proofs.Ytlkemknhmfjdpaa.Pure
open Go.RowKit Go.Proofs.Ytlkemknhmfjdpaa.P Go.Proofs.YtlkemknhmfjdpaaW.PrintWords Go.Proofs.YtlkemknhmfjdpaaW.PrintLast Go.Proofs.YtlkemknhmfjdpaaW.PrintMore
set_option linter.unusedVariables false
set_option linter.unusedSimpArgs false

theorem kind_get {s : ByteArray} {k : Int} {B : List UInt8} (h : D s = toB (putL k 1) ++ B) (h0 : 1 ≤ k) (h1 : k ≤ 4) : kindN s = k ∧ s.size = 1 + B.length := by
  have n0 : numAt s 0 1 = k := get1 (p := 0) (A := []) (by rw [List.nil_append]; exact h) rfl (by omega) (by omega)
  exact ⟨by rw [kindN, n0]; exact i64_small (by omega) (by omega), by rw [← D_size, h, List.length_append, putL_len]⟩
theorem txt_get {s : ByteArray} {p : Nat} {A : List UInt8} {d : ByteArray} (h : D s = A ++ D d) (hA : A.length = p) : txtAt s p = d ∧ s.size = p + d.size := by
  have hz : s.size = p + d.size := by rw [← D_size, h, List.length_append, hA, D_size]
  refine ⟨?_, hz⟩
  refine D_inj ?_
  rw [(txt_D (s := s) p (by omega)).1, sl, h, ← hA, List.drop_left, List.take_of_length_le (by rw [D_size]; omega)]
theorem flags_get (has dir : Bool) : (bits BinOp.and IntKind.u64 (flagsN has dir) 1 != 0) = has ∧ (bits BinOp.and IntKind.u64 (flagsN has dir) 2 != 0) = dir ∧ 0 ≤ flagsN has dir ∧ flagsN has dir ≤ 3 := by
  cases has <;> cases dir <;> exact ⟨by kernel_rfl, by kernel_rfl, by decide, by decide⟩
/-- What is left of an item behind its print. -/
def normI (k : Int) (d : ByteArray) (inc holds : Int) (has dir : Bool) (rn re rr rm : Int) (l : List S27) (vn ve vr vm nb ix tt : Int) : ItemT :=
  if k = 1 then (1, d, 0, 0, false, false, 0, 0, 0, 0, [], 0, 0, 0, 0, 0, 0, 0, 0)
  else if k = 2 then (2, ⟨#[]⟩, inc, holds, has, dir, rn, re, rr, rm, l, 0, 0, 0, 0, 0, 0, 0, 0)
  else if k = 3 then (3, ⟨#[]⟩, 0, 0, false, false, 0, 0, 0, 0, [], vn, ve, vr, vm, 0, 0, 0, 0)
  else (4, d, 0, 0, false, false, 0, 0, 0, 0, [], 0, 0, 0, 0, nb, ix, tt, 0)
theorem item_get1 {d t : ByteArray} (hd : d.size ≤ 1023) (ht : t = strOfNums (([] ++ putL 1 1) ++ bytesOf d)) : itemE t = 0 ∧ itemAt t = (1, d, 0, 0, false, false, 0, 0, 0, 0, [], 0, 0, 0, 0, 0, 0, 0, 0) := by
  have hD : D t = toB (putL 1 1) ++ D d := by rw [ht, D_strOfNums, List.nil_append, toB_append, toB_bytesOf]
  obtain ⟨k, _⟩ := kind_get hD (by decide) (by decide)
  have hx := txt_get (p := 1) hD (putL_len _ _)
  have hx1 : txtAt t 1 = d := hx.1
  have hz : t.size = 1 + d.size := hx.2
  rw [itemE, if_neg (by omega), if_neg (by rw [k]; decide), if_neg (by omega), if_pos k, itemAt, if_pos k, hx1]
  exact ⟨rfl, rfl⟩
theorem item_get3 {t : ByteArray} {n ep rep mem : Int} (hw : sW ⟨n, ⟨ep, rep⟩, mem⟩) (ho : sOk ⟨n, ⟨ep, rep⟩, mem⟩) (ht : t = strOfNums (([] ++ putL 3 1) ++ vB n ep rep mem)) : itemE t = 0 ∧ itemAt t = (3, ⟨#[]⟩, 0, 0, false, false, 0, 0, 0, 0, [], n, ep, rep, mem, 0, 0, 0, 0) := by
  have hD : D t = toB (putL 3 1) ++ (toB (sB ⟨n, ⟨ep, rep⟩, mem⟩) ++ []) := by rw [ht, D_strOfNums, List.nil_append, toB_append, List.append_nil, sB]
  obtain ⟨k, hz⟩ := kind_get hD (by decide) (by decide)
  rw [List.append_nil, sB_len] at hz
  have hv := view_put (p := 1) hD (putL_len _ _) hw ho
  have v0 : viewE t 1 = 0 := hv.1
  have v1 : P.viewAt t 1 = ⟨n, ⟨ep, rep⟩, mem⟩ := hv.2
  rw [itemE, if_neg (by omega), if_neg (by rw [k]; decide), if_neg (by omega), if_neg (by rw [k]; decide), if_neg (by rw [k]; decide), if_pos k, if_neg (by rw [v0]; decide), if_neg (by omega), itemAt, if_neg (by rw [k]; decide), if_neg (by rw [k]; decide), if_pos k, v1]
  exact ⟨rfl, rfl⟩
theorem item_get4 {d t : ByteArray} {nb ix tt : Int} (hd : d.size ≤ 1011) (hn : 0 ≤ nb ∧ nb < 18446744073709551616) (hi : 0 ≤ ix ∧ ix ≤ 65535) (hj : 0 ≤ tt ∧ tt ≤ 65535) (ht : t = strOfNums (([] ++ putL 4 1 ++ putL nb 8 ++ putL ix 2 ++ putL tt 2) ++ bytesOf d)) :
    itemE t = 0 ∧ itemAt t = (4, d, 0, 0, false, false, 0, 0, 0, 0, [], 0, 0, 0, 0, nb, ix, tt, 0) := by
  have hD : D t = toB (putL 4 1) ++ (toB (putL nb 8) ++ (toB (putL ix 2) ++ (toB (putL tt 2) ++ D d))) := by rw [ht, D_strOfNums, List.nil_append]; simp only [toB_append, toB_bytesOf, List.append_assoc]
  obtain ⟨k, _⟩ := kind_get hD (by decide) (by decide)
  have hx := txt_get (p := 13) (d := d) (A := toB (putL 4 1) ++ toB (putL nb 8) ++ toB (putL ix 2) ++ toB (putL tt 2)) (by rw [hD]; simp only [List.append_assoc]) (by simp only [List.length_append, putL_len])
  have hx1 : txtAt t 13 = d := hx.1
  have hz : t.size = 13 + d.size := hx.2
  have n1 : numAt t 1 8 = nb := get8 (p := 1) (A := toB (putL 4 1)) hD (putL_len _ _) hn.1 hn.2
  have n2 : numAt t 9 2 = ix := get2 (p := 9) (A := toB (putL 4 1) ++ toB (putL nb 8)) (by rw [hD]; simp only [List.append_assoc]; rfl) (by simp only [List.length_append, putL_len]) hi.1 (by omega)
  have n3 : numAt t 11 2 = tt := get2 (p := 11) (A := toB (putL 4 1) ++ toB (putL nb 8) ++ toB (putL ix 2)) (by rw [hD]; simp only [List.append_assoc]; rfl) (by simp only [List.length_append, putL_len]) hj.1 (by omega)
  rw [itemE, if_neg (by omega), if_neg (by rw [k]; decide), if_neg (by omega), if_neg (by rw [k]; decide), if_neg (by rw [k]; decide), if_neg (by rw [k]; decide), if_neg (by omega), itemAt, if_neg (by rw [k]; decide), if_neg (by rw [k]; decide), if_neg (by rw [k]; decide), hx1, n1, n2, n3, i64_small hi.1 (by omega), i64_small hj.1 (by omega)]
  exact ⟨rfl, rfl⟩
theorem item_get2 {t : ByteArray} {inc holds : Int} {has dir : Bool} {n ep rep mem : Int} {l : List S27} (hi : 0 ≤ inc ∧ inc ≤ 4294967295) (hh : 0 ≤ holds ∧ holds < 18446744073709551616) (hx : sW ⟨n, ⟨ep, rep⟩, mem⟩) (hx2 : sOk ⟨n, ⟨ep, rep⟩, mem⟩) (hl : l.length ≤ 32) (hw : ∀ x ∈ l, sW x) (ho : ∀ x ∈ l, sOk x)
    (ht : t = strOfNums (([] ++ putL 2 1 ++ putL inc 4 ++ putL holds 8 ++ putL (flagsN has dir) 1) ++ recB n ep rep mem l)) :
    itemE t = 0 ∧ itemAt t = (2, ⟨#[]⟩, inc, holds, has, dir, n, ep, rep, mem, l, 0, 0, 0, 0, 0, 0, 0, 0) := by
  have hD : D t = toB (putL 2 1) ++ (toB (putL inc 4) ++ (toB (putL holds 8) ++ (toB (putL (flagsN has dir) 1) ++ (toB (recB n ep rep mem l) ++ [])))) := by rw [ht, D_strOfNums, List.nil_append]; simp only [toB_append, List.append_assoc, List.append_nil]
  obtain ⟨k, _⟩ := kind_get hD (by decide) (by decide)
  have r := rec_put (s := t) (p := 14) (A := toB (putL 2 1) ++ toB (putL inc 4) ++ toB (putL holds 8) ++ toB (putL (flagsN has dir) 1)) (B := []) (by rw [hD]; simp only [List.append_assoc]) (by simp only [List.length_append, putL_len]) hx hx2 hl hw ho
  obtain ⟨r1, r2, r3, r4, r5⟩ := r
  have r1' : recE t 14 = 0 := r1
  have r2' : P.viewAt t 14 = ⟨n, ⟨ep, rep⟩, mem⟩ := r2
  have r3' : (recN t 14).toNat = l.length := r3
  have r4' : viewsAt t (recN t 14).toNat (14 + 26) = l := r4
  have r5' : t.size = 14 + 26 + 25 * l.length := r5
  obtain ⟨f1, f2, f3, f4⟩ := flags_get has dir
  have n1 : numAt t 1 4 = inc := get4 (p := 1) (A := toB (putL 2 1)) hD (putL_len _ _) hi.1 (by omega)
  have n2 : numAt t 5 8 = holds := get8 (p := 5) (A := toB (putL 2 1) ++ toB (putL inc 4)) (by rw [hD]; simp only [List.append_assoc]; rfl) (by simp only [List.length_append, putL_len]) hh.1 hh.2
  have n3 : numAt t 13 1 = flagsN has dir := get1 (p := 13) (A := toB (putL 2 1) ++ toB (putL inc 4) ++ toB (putL holds 8)) (by rw [hD]; simp only [List.append_assoc]; rfl) (by simp only [List.length_append, putL_len]) f3 (by omega)
  rw [itemE, if_neg (by omega), if_neg (by rw [k]; decide), if_neg (by omega), if_neg (by rw [k]; decide), if_pos k, if_neg (by omega), if_neg (by rw [n3]; omega), if_neg (by rw [r1']; decide), if_neg (by rw [r3']; omega), itemAt, if_neg (by rw [k]; decide), if_pos k, n1, n2, n3, f1, f2, r4', r2', u32_small hi.1 (by omega)]
  exact ⟨rfl, rfl⟩
/-- What PrintItem printed is read. -/
theorem item_parse {k : Int} {d : ByteArray} {inc holds : Int} {has dir : Bool} {rn re rr rm : Int} {l : List S27} {vn ve vr vm nb ix tt : Int} {t : ByteArray} (hh : 0 ≤ holds ∧ holds < 18446744073709551616) (hx : sW ⟨rn, ⟨re, rr⟩, rm⟩) (hw : ∀ x ∈ l, sW x) (hv : sW ⟨vn, ⟨ve, vr⟩, vm⟩) (hn : 0 ≤ nb ∧ nb < 18446744073709551616)
    (h : log_PrintItem.f k d inc holds has dir rn re rr rm l vn ve vr vm nb ix tt = some (t, 0)) : itemE t = 0 ∧ itemAt t = normI k d inc holds has dir rn re rr rm l vn ve vr vm nb ix tt ∧ 1 ≤ k ∧ k ≤ 4 ∧ t.size ≤ 1000000 := by
  rw [log_PrintItem.f] at h
  by_cases h1 : (0 ≤ inc ∧ inc ≤ 4294967295) ∧ d.size ≤ 1000000
  rotate_left
  · rw [if_neg h1] at h; cases h
  rw [if_pos h1, logItem] at h
  by_cases k0 : k < 1
  · rw [if_pos k0] at h; simp at h
  rw [if_neg k0] at h
  by_cases k5 : 4 < k
  · rw [if_pos k5] at h; simp at h
  rw [if_neg k5] at h
  have fin : ∀ {x : ItemT}, itemE t = 0 ∧ itemAt t = x → x = normI k d inc holds has dir rn re rr rm l vn ve vr vm nb ix tt → itemE t = 0 ∧ itemAt t = normI k d inc holds has dir rn re rr rm l vn ve vr vm nb ix tt ∧ 1 ≤ k ∧ k ≤ 4 ∧ t.size ≤ 1000000 := fun hh hx => ⟨hh.1, hh.2.trans hx, by omega, by omega, by have := (itemE_zero hh.1).2.1; omega⟩
  by_cases k1 : k = 1
  · rw [if_pos k1] at h
    by_cases d1 : d.size ≤ 1023
    · rw [if_pos d1] at h
      exact fin (item_get1 d1 (Prod.mk.inj (Option.some.inj h)).1.symm) (by rw [normI, if_pos k1])
    · rw [if_neg d1] at h; simp at h
  rw [if_neg k1] at h
  by_cases k2 : k = 2
  · rw [if_pos k2] at h
    by_cases c1 : rr < 0 ∨ 64 ≤ rr
    · rw [if_pos c1] at h; simp at h
    rw [if_neg c1] at h
    by_cases c2 : 32 < l.length
    · rw [if_pos c2] at h; simp at h
    rw [if_neg c2] at h
    by_cases c3 : ∀ x ∈ l, sOk x
    · rw [if_pos c3] at h
      exact fin (item_get2 h1.1 hh hx (show 0 ≤ rr ∧ rr < 64 by omega) (by omega) hw c3 (Prod.mk.inj (Option.some.inj h)).1.symm) (by rw [normI, if_neg k1, if_pos k2])
    · rw [if_neg c3] at h; simp at h
  rw [if_neg k2] at h
  by_cases k3 : k = 3
  · rw [if_pos k3] at h
    by_cases c1 : vr < 0 ∨ 64 ≤ vr
    · rw [if_pos c1] at h; simp at h
    rw [if_neg c1] at h
    exact fin (item_get3 hv (show 0 ≤ vr ∧ vr < 64 by omega) (Prod.mk.inj (Option.some.inj h)).1.symm) (by rw [normI, if_neg k1, if_neg k2, if_pos k3])
  rw [if_neg k3] at h
  by_cases c1 : ix < 0 ∨ 65535 < ix ∨ tt < 0 ∨ 65535 < tt
  · rw [if_pos c1] at h; simp at h
  rw [if_neg c1] at h
  by_cases c2 : d.size ≤ 1011
  · rw [if_pos c2] at h
    exact fin (item_get4 c2 hn (by omega) (by omega) (Prod.mk.inj (Option.some.inj h)).1.symm) (by rw [normI, if_neg k1, if_neg k2, if_neg k3])
  · rw [if_neg c2] at h; simp at h
end Go.Proofs.Ytlkemknhmfjdpaa.Pure
/- The log's plain laws: what is the same compares as the same. -/
namespace Go.Proofs.Ytlkemknhmfjdpaa.Pure
open Go.RowKit Go.Proofs.Ytlkemknhmfjdpaa.P Go.Proofs.YtlkemknhmfjdpaaW.PrintWords Go.Proofs.YtlkemknhmfjdpaaW.PrintLast Go.Proofs.YtlkemknhmfjdpaaW.PrintMore
set_option linter.unusedVariables false
set_option linter.unusedSimpArgs false

theorem views_same (l : List S27) (hl : l.length ≤ 1000000) : ∀ (d k i : Nat), i + d = l.length → d < k → consortref18_Views.l0 k l l (i : Int) = some true
  | 0, k, i, h, hk => by
    obtain ⟨k, rfl⟩ : ∃ m, k = m + 1 := ⟨k - 1, by omega⟩
    rw [consortref18_Views.l0, if_neg (by omega)]
  | d + 1, k, i, h, hk => by
    obtain ⟨k, rfl⟩ : ∃ m, k = m + 1 := ⟨k - 1, by omega⟩
    have e : wrap64 ((i : Int) + 1) = ((i + 1 : Nat) : Int) := by unfold wrap64; omega
    rw [consortref18_Views.l0, if_pos (by omega), if_pos (by omega), if_pos (by omega), if_neg (by simp), e]
    exact views_same l hl d k (i + 1) (by omega) (by omega)
theorem same_same (l : List S27) (hl : l.length ≤ 1000) (a b c d : Int) : consortref18_Same.f 1002 a b c d l a b c d l = some true := by
  rw [consortref18_Same.f, if_pos (by simp), consortref18_Views.f, if_pos rfl, show (0 : Int) = ((0 : Nat) : Int) from rfl, views_same l (by omega) l.length 1002 0 (by omega) (by omega)]
  rfl
theorem stables_same (l : List S27) (hl : l.length ≤ 1000) (p q a b c d : Int) : consortref19_Stables.f 1002 p q a b c d l p q a b c d l = some true := by
  rw [consortref19_Stables.f, if_pos rfl, if_pos rfl, same_same l hl]
  rfl
end Go.Proofs.Ytlkemknhmfjdpaa.Pure
