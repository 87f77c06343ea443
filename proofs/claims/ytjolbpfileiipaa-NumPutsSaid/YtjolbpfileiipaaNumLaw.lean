/- Layer 1's plain laws: numbers as bytes, and back; sums that stay. -/
import Derived.Test.YtjolbpfileiipaaPutLaw
import Derived.Test.YtjolbpfileiipaaHandV
import Derived.Test.YtjolbpfileiipaaPx2
import Derived.Lib.Strings
import Derived.WideShapes
import Derived.Laws.BitsAllLaws
namespace Go.Proofs.Ytjolbpfileiipaa.Pure
open Go.RowKit Go.Proofs.Ytjolbpfileiipaa.P Go.Proofs.YtjolbpfileiipaaW.PrintWords Go.Proofs.YtjolbpfileiipaaW.PrintLast Go.Proofs.YtjolbpfileiipaaW.PrintMore
set_option linter.unusedVariables false

abbrev D (s : ByteArray) : List UInt8 := s.data.toList
theorem D_size (s : ByteArray) : (D s).length = s.size := Array.length_toList
theorem D_append (a b : ByteArray) : D (a ++ b) = D a ++ D b := by
  show (a ++ b).data.toList = a.data.toList ++ b.data.toList
  rw [ByteArray.data_append, Array.toList_append]
theorem D_extract (s : ByteArray) (a b : Nat) : D (s.extract a b) = ((D s).drop a).take (b - a) := Lib.extract_data s a b
theorem D_inj {a b : ByteArray} (h : D a = D b) : a = b := WideShapes.bytes_inj h
theorem u64_wrap (n : Int) : IntKind.u64.wrap n = n % 18446744073709551616 := by simp [IntKind.wrap, IntKind.bits, IntKind.signed]
theorem wf_i64 {a : Int} (h : (Lit.int .i64 a).wf = true) : -9223372036854775808 ≤ a ∧ a ≤ 9223372036854775807 := by
  simp only [Lit.wf, Bool.and_eq_true, decide_eq_true_eq] at h
  exact h
theorem wf_u64 {a : Int} (h : (Lit.int .u64 a).wf = true) : 0 ≤ a ∧ a ≤ 18446744073709551615 := by
  simp only [Lit.wf, Bool.and_eq_true, decide_eq_true_eq] at h
  exact h
/-- The number of some bytes. -/
def valN (l : List UInt8) : Nat := l.foldl (fun v c => v * 256 + c.toNat) 0
theorem valN_snoc (l : List UInt8) (c : UInt8) : valN (l ++ [c]) = valN l * 256 + c.toNat := by rw [valN, List.foldl_append, List.foldl_cons, List.foldl_nil, valN]
theorem valN_take (l : List UInt8) : ∀ n : Nat, n ≤ l.length → valN (l.take n) < 256 ^ n := by
  intro n
  induction n with
  | zero => intro _; rw [List.take_zero]; exact Nat.one_pos
  | succ n ih =>
    intro hn
    rw [List.take_succ_eq_append_getElem (by omega), valN_snoc, Nat.pow_succ]
    have := ih (by omega)
    have := (l[n]'(by omega)).toNat_lt
    omega
theorem valN_lt (l : List UInt8) : valN l < 256 ^ l.length := by
  have := valN_take l l.length (Nat.le_refl _)
  rwa [List.take_length] at this
theorem pow_le {a : Nat} (h : a ≤ 7) : 256 ^ a ≤ 72057594037927936 := by
  have : 256 ^ a ≤ 256 ^ 7 := Nat.pow_le_pow_right (by omega) h
  exact this
theorem valL_take (l : List UInt8) : ∀ n : Nat, n ≤ l.length → n ≤ 8 → valL (l.take n) = (valN (l.take n) : Int) := by
  intro n
  induction n with
  | zero => intro _ _; rw [List.take_zero]; rfl
  | succ n ih =>
    intro hn h8
    have h0 := ih (by omega) (by omega)
    have h1 := valN_take l n (by omega)
    have h2 := pow_le (show n ≤ 7 by omega)
    have h3 := (l[n]'(by omega)).toNat_lt
    rw [List.take_succ_eq_append_getElem (by omega), valN_snoc, valL, List.foldl_append, List.foldl_cons, List.foldl_nil]
    change bits .or .u64 (IntKind.u64.wrap (valL (l.take n) * 256)) _ = _
    rw [h0, u64_wrap, show ((valN (l.take n) : Int) * 256) % 18446744073709551616 = ((valN (l.take n) * 256 : Nat) : Int) by omega, u64_or_nat _ _ (by omega) (by omega)]
    have := Nat.two_pow_add_eq_or_of_lt (i := 8) (b := (l[n]'(by omega)).toNat) (by omega) (valN (l.take n))
    rw [show valN (l.take n) * 256 = 2 ^ 8 * valN (l.take n) by omega, ← this]
theorem value_is (s : ByteArray) (h : s.size ≤ 8) : num_value.f s = some (valN (D s) : Int) := by
  unfold num_value.f
  rw [if_pos (by omega)]
  have := valL_take (D s) (D s).length (Nat.le_refl _) (by rw [D_size]; exact h)
  rw [List.take_length] at this
  rw [this]
/-- The number at a place. -/
def getR (s : ByteArray) (at_ n : Int) : Int × Bool := if 1 ≤ n ∧ n ≤ 8 ∧ 0 ≤ at_ ∧ at_ + n ≤ s.size then ((valN (((D s).drop at_.toNat).take n.toNat) : Int), true) else (0, false)
theorem get_is (s : ByteArray) (at_ n : Int) (hs : s.size ≤ 140737488351232) (ha : -9223372036854775808 ≤ at_ ∧ at_ ≤ 9223372036854775807) (hn : -9223372036854775808 ≤ n ∧ n ≤ 9223372036854775807) :
    num_Get.f s at_ n = some (getR s at_ n) := by
  unfold num_Get.f getR
  by_cases h1 : n < 1
  · rw [if_pos h1, if_neg (by omega)]
  by_cases h2 : n > 8
  · rw [if_neg h1, if_pos h2, if_neg (by omega)]
  by_cases h3 : at_ < 0
  · rw [if_neg h1, if_neg h2, if_pos h3, if_neg (by omega)]
  rw [if_neg h1, if_neg h2, if_neg h3]
  have ew : wrap64 ((s.size : Int) - n) = (s.size : Int) - n := wrap_in (by omega) (by omega)
  by_cases h4 : at_ > (s.size : Int) - n
  · rw [ew, if_pos h4, if_neg (by omega)]
  · have ew2 : wrap64 (at_ + n) = at_ + n := wrap_in (by omega) (by omega)
    rw [ew, if_neg h4, if_pos (by omega), ew2, if_pos (by omega), if_pos (by omega), if_pos (by omega)]
    have hz : (s.extract at_.toNat (at_ + n).toNat).size ≤ 8 := by rw [ByteArray.size_extract]; omega
    rw [value_is _ hz, Option.bind_some, D_extract, show (at_ + n).toNat - at_.toNat = n.toNat by omega]
theorem bt_is (s : ByteArray) (i : Nat) (h : i < s.size) : bt s (i : Int) = (((D s)[i]'(by rw [D_size]; exact h)).toNat : Int) := by
  unfold bt
  rw [dif_pos (by simpa using h)]
  rfl
theorem refget_loop (s : ByteArray) (at_ n : Nat) (hs : s.size ≤ 140737488351232) (hn : n ≤ 8) (ha : at_ + n ≤ s.size) : ∀ (d k i : Nat), i + d = n → d < k →
    consortref01_Get.l0 k s at_ n (valN (((D s).drop at_).take i) : Int) ((at_ + i : Nat) : Int) = some ((valN (((D s).drop at_).take n) : Int), true) := by
  intro d
  have ew : wrap64 ((at_ : Int) + n) = ((at_ + n : Nat) : Int) := by rw [wrap_in (by omega) (by omega)]; omega
  induction d with
  | zero =>
    intro k i hd hk
    obtain ⟨k, rfl⟩ : ∃ m, k = m + 1 := ⟨k - 1, by omega⟩
    simp only [consortref01_Get.l0]
    rw [ew, if_neg (by omega), show i = n by omega]
  | succ d ih =>
    intro k i hd hk
    obtain ⟨k, rfl⟩ : ∃ m, k = m + 1 := ⟨k - 1, by omega⟩
    simp only [consortref01_Get.l0]
    rw [ew, if_pos (by omega), if_pos (by omega), if_pos (by omega), bt_is s (at_ + i) (by omega)]
    have e4 : wrap64 (((at_ + i : Nat) : Int) + 1) = ((at_ + (i + 1) : Nat) : Int) := by rw [wrap_in (by omega) (by omega)]; omega
    have hl : i < ((D s).drop at_).length := by rw [List.length_drop, D_size]; omega
    have e5 : ((D s).drop at_)[i] = (D s)[at_ + i]'(by rw [D_size]; omega) := List.getElem_drop ..
    have e6 : IntKind.u64.wrap (IntKind.u64.wrap ((valN (((D s).drop at_).take i) : Int) * 256) + IntKind.u64.wrap (((D s)[at_ + i]'(by rw [D_size]; omega)).toNat : Int)) = (valN (((D s).drop at_).take (i + 1)) : Int) := by
      rw [List.take_succ_eq_append_getElem hl, valN_snoc, e5]
      have h1 := valN_take ((D s).drop at_) i (by omega)
      have h2 := pow_le (show i ≤ 7 by omega)
      have h3 := ((D s)[at_ + i]'(by rw [D_size]; omega)).toNat_lt
      rw [u64_wrap, u64_wrap, u64_wrap]
      omega
    rw [e4, e6]
    exact ih k (i + 1) (by omega) (by omega)
theorem refget_is (k : Nat) (hk : 12 ≤ k) (s : ByteArray) (at_ n : Int) (hs : s.size ≤ 140737488351232) :
    consortref01_Get.f k s at_ n = some (getR s at_ n) := by
  obtain ⟨k, rfl⟩ : ∃ m, k = m + 1 := ⟨k - 1, by omega⟩
  have hj : consortref01_Get.j0 (k + 1) s at_ n true = some (0, false) := by
    simp only [consortref01_Get.j0]
    rw [if_pos trivial]
  unfold consortref01_Get.f getR
  by_cases h1 : n < 1
  · rw [if_pos h1, if_neg (by omega), hj]
  by_cases h2 : n > 8
  · rw [if_neg h1, if_pos h2, if_neg (by omega), hj]
  by_cases h3 : at_ < 0
  · rw [if_neg h1, if_neg h2, if_pos h3, if_neg (by omega), hj]
  by_cases h4 : at_ > (s.size : Int)
  · rw [if_neg h1, if_neg h2, if_neg h3, if_pos h4, if_neg (by omega), hj]
  rw [if_neg h1, if_neg h2, if_neg h3, if_neg h4]
  have ew : wrap64 ((s.size : Int) - at_) = (s.size : Int) - at_ := wrap_in (by omega) (by omega)
  rw [ew]
  by_cases h5 : (s.size : Int) - at_ < n
  · rw [decide_eq_true h5, hj, if_neg (by omega)]
  · rw [decide_eq_false h5, if_pos (by omega)]
    simp only [consortref01_Get.j0]
    rw [if_neg (by simp)]
    have := refget_loop s at_.toNat n.toNat hs (by omega) (by omega) n.toNat k 0 (by omega) (by omega)
    rw [show ((at_.toNat : Nat) : Int) = at_ by omega, show ((n.toNat : Nat) : Int) = n by omega, show ((at_.toNat + 0 : Nat) : Int) = at_ by omega] at this
    exact this
def sumR (a b : Int) : Int := min (a + b) 18446744073709551615
theorem sum_is {a b : Int} (ha : 0 ≤ a ∧ a ≤ 18446744073709551615) (hb : 0 ≤ b ∧ b ≤ 18446744073709551615) : num_Sum.f a b = some (sumR a b) := by
  unfold num_Sum.f sumR
  rw [u64_wrap, u64_wrap]
  by_cases h : b > (18446744073709551615 - a) % 18446744073709551616
  · rw [if_pos h]
    congr 1
    omega
  · rw [if_neg h]
    congr 1
    omega
theorem sumR_in {a b : Int} (ha : 0 ≤ a) (hb : 0 ≤ b) : 0 ≤ sumR a b ∧ sumR a b ≤ 18446744073709551615 := by unfold sumR; omega
theorem refsum_is {a b : Int} (ha : 0 ≤ a ∧ a ≤ 18446744073709551615) (hb : 0 ≤ b ∧ b ≤ 18446744073709551615) : consortref01_Sum.f a b = some (sumR a b) := by
  unfold consortref01_Sum.f sumR
  rw [u64_wrap]
  by_cases h : (a + b) % 18446744073709551616 < a
  · rw [if_pos h]
    congr 1
    omega
  · rw [if_neg h]
    congr 1
    omega
theorem awake_is (k : Nat) (hk : 9 ≤ k) : consortlaw01_awake.f k = some true := by
  unfold consortlaw01_awake.f
  rw [put_is k hk _ _ _ (by simp)]
  simp only [ByteArray.toList_eq]
  decide +kernel
end Go.Proofs.Ytjolbpfileiipaa.Pure
