import Derived.Test.YtlkemknhmfjdpaaPutLaw
import Derived.Test.YtlkemknhmfjdpaaHandA6
import Derived.Test.YtlkemknhmfjdpaaHandI
import Derived.Test.YtlkemknhmfjdpaaHandZ
import Derived.Lib.Strings
import Derived.WideShapes
import Derived.Laws.BitsAllLaws
import Derived.Laws.BytesArg
/- The log's plain laws: numbers, views, records as bytes. -/
namespace Go.Proofs.Ytlkemknhmfjdpaa.Pure
open Go.RowKit Go.Proofs.Ytlkemknhmfjdpaa.P Go.Proofs.YtlkemknhmfjdpaaW.PrintWords Go.Proofs.YtlkemknhmfjdpaaW.PrintLast Go.Proofs.YtlkemknhmfjdpaaW.PrintMore
set_option linter.unusedVariables false
set_option linter.unusedSimpArgs false

abbrev D (s : ByteArray) : List UInt8 := s.data.toList
theorem D_size (s : ByteArray) : (D s).length = s.size := Array.length_toList
theorem D_extract (s : ByteArray) (a b : Nat) : D (s.extract a b) = ((D s).drop a).take (b - a) := Lib.extract_data s a b
theorem u64_wrap (n : Int) : IntKind.u64.wrap n = n % 18446744073709551616 := by simp [IntKind.wrap, IntKind.bits, IntKind.signed]
/-- The number of some bytes. -/
def valN (l : List UInt8) : Nat := l.foldl (fun v c => v * 256 + c.toNat) 0
theorem valN_snoc (l : List UInt8) (c : UInt8) : valN (l ++ [c]) = valN l * 256 + c.toNat := by rw [valN, List.foldl_append, List.foldl_cons, List.foldl_nil, valN]
theorem valN_take (l : List UInt8) : ∀ n : Nat, n ≤ l.length → valN (l.take n) < 256 ^ n := by
  intro n
  induction n with
  | zero => intro _; rw [List.take_zero]; exact Nat.one_pos
  | succ n ih =>
    intro hn
    rw [List.take_succ_eq_append_getElem (by omega), valN_snoc, Nat.pow_succ]
    have := ih (by omega)
    have := (l[n]'(by omega)).toNat_lt
    omega
theorem valN_lt (l : List UInt8) : valN l < 256 ^ l.length := by
  have := valN_take l l.length (Nat.le_refl _)
  rwa [List.take_length] at this
theorem pow_le {a : Nat} (h : a ≤ 7) : 256 ^ a ≤ 72057594037927936 := by
  have : 256 ^ a ≤ 256 ^ 7 := Nat.pow_le_pow_right (by omega) h
  exact this
theorem valL_take (l : List UInt8) : ∀ n : Nat, n ≤ l.length → n ≤ 8 → valL (l.take n) = (valN (l.take n) : Int) := by
  intro n
  induction n with
  | zero => intro _ _; rw [List.take_zero]; rfl
  | succ n ih =>
    intro hn h8
    have h0 := ih (by omega) (by omega)
    have h1 := valN_take l n (by omega)
    have h2 := pow_le (show n ≤ 7 by omega)
    have h3 := (l[n]'(by omega)).toNat_lt
    rw [List.take_succ_eq_append_getElem (by omega), valN_snoc, valL, List.foldl_append, List.foldl_cons, List.foldl_nil]
    change bits .or .u64 (IntKind.u64.wrap (valL (l.take n) * 256)) _ = _
    rw [h0, u64_wrap, show ((valN (l.take n) : Int) * 256) % 18446744073709551616 = ((valN (l.take n) * 256 : Nat) : Int) by omega, u64_or_nat _ _ (by omega) (by omega)]
    have := Nat.two_pow_add_eq_or_of_lt (i := 8) (b := (l[n]'(by omega)).toNat) (by omega) (valN (l.take n))
    rw [show valN (l.take n) * 256 = 2 ^ 8 * valN (l.take n) by omega, ← this]
/-- The bytes of n from p on. -/
def sl (s : ByteArray) (p n : Nat) : List UInt8 := ((D s).drop p).take n
theorem sl_len {s : ByteArray} {p n : Nat} (h : p + n ≤ s.size) : (sl s p n).length = n := by
  rw [sl, List.length_take, List.length_drop, D_size]; omega
/-- A number that is read. -/
theorem numAt_sl {s : ByteArray} (p n : Nat) (h8 : n ≤ 8) (hp : p + n ≤ s.size) : numAt s p n = (valN (sl s p n) : Int) := by
  have h := valL_take (sl s p n) n (by rw [sl_len hp]; omega) h8
  rw [List.take_of_length_le (by rw [sl_len hp]; omega)] at h
  rw [← h, numAt]
  congr 1
  have e1 : ((p : Int)).toNat = p := by omega
  have e2 : ((p : Int) + (n : Int)).toNat - p = n := by omega
  show D _ = _
  rw [D_extract, e1, e2, sl]
theorem numAt_range {s : ByteArray} (p n : Nat) (h8 : n ≤ 8) (hp : p + n ≤ s.size) : 0 ≤ numAt s p n ∧ numAt s p n < ((256 ^ n : Nat) : Int) := by
  rw [numAt_sl p n h8 hp]
  have := valN_lt (sl s p n)
  rw [sl_len hp] at this
  omega
end Go.Proofs.Ytlkemknhmfjdpaa.Pure
/- The log's plain laws: views and records as bytes, and back. -/
namespace Go.Proofs.Ytlkemknhmfjdpaa.Pure
open Go.RowKit Go.Proofs.Ytlkemknhmfjdpaa.P Go.Proofs.YtlkemknhmfjdpaaW.PrintWords Go.Proofs.YtlkemknhmfjdpaaW.PrintLast Go.Proofs.YtlkemknhmfjdpaaW.PrintMore
set_option linter.unusedVariables false
set_option linter.unusedSimpArgs false

theorem i64_small {x : Int} (h0 : 0 ≤ x) (h1 : x < 65536) : IntKind.i64.wrap x = x := by simp [IntKind.wrap, IntKind.bits, IntKind.signed]; omega
/-! ### What was read, put again -/
theorem rng1 {s : ByteArray} (p : Nat) (h : p + 1 ≤ s.size) : 0 ≤ numAt s p 1 ∧ numAt s p 1 < 256 := numAt_range p 1 (by decide) h
theorem views_len (s : ByteArray) : ∀ (n : Nat) (p : Int), (viewsAt s n p).length = n
  | 0, _ => rfl
  | n + 1, p => by rw [viewsAt, List.length_cons, views_len s n]
theorem recN_in {s : ByteArray} (p : Nat) (h : p + 26 ≤ s.size) : recN s p = numAt s ((p + 25 : Nat) : Int) 1 ∧ 0 ≤ recN s p := by
  have r := rng1 (s := s) (p + 25) (by omega)
  have w : recN s p = numAt s ((p + 25 : Nat) : Int) 1 := by
    rw [recN, show (p : Int) + 25 = ((p + 25 : Nat) : Int) by omega]
    exact i64_small r.1 (by omega)
  exact ⟨w, by rw [w]; exact r.1⟩
end Go.Proofs.Ytlkemknhmfjdpaa.Pure
/- The log's plain laws: what ParseItem read is printed to the same bytes. -/
namespace Go.Proofs.Ytlkemknhmfjdpaa.Pure
open Go.RowKit Go.Proofs.Ytlkemknhmfjdpaa.P Go.Proofs.YtlkemknhmfjdpaaW.PrintWords Go.Proofs.YtlkemknhmfjdpaaW.PrintLast Go.Proofs.YtlkemknhmfjdpaaW.PrintMore
set_option linter.unusedVariables false
set_option linter.unusedSimpArgs false

/-- The good ways of ParseItem. -/
theorem itemE_zero {s : ByteArray} (h : itemE s = 0) : 1 ≤ s.size ∧ s.size ≤ 1024 ∧ (kindN s = 1 ∨ (kindN s = 2 ∧ 14 ≤ s.size ∧ numAt s 13 1 ≤ 3 ∧ recE s 14 = 0 ∧ 14 + 26 + 25 * ((recN s 14).toNat : Int) = s.size) ∨ (kindN s = 3 ∧ viewE s 1 = 0 ∧ 26 = s.size) ∨ (kindN s = 4 ∧ 13 ≤ s.size)) := by
  unfold itemE at h
  by_cases d1 : s.size < 1
  · rw [if_pos d1] at h; cases h
  rw [if_neg d1] at h
  by_cases d2 : kindN s < 1 ∨ 4 < kindN s
  · rw [if_pos d2] at h; cases h
  rw [if_neg d2] at h
  by_cases d3 : 1024 < s.size
  · rw [if_pos d3] at h; cases h
  rw [if_neg d3] at h
  refine ⟨by omega, by omega, ?_⟩
  by_cases k1 : kindN s = 1
  · exact .inl k1
  rw [if_neg k1] at h
  by_cases k2 : kindN s = 2
  · rw [if_pos k2] at h
    by_cases c1 : s.size < 14
    · rw [if_pos c1] at h; cases h
    rw [if_neg c1] at h
    by_cases c2 : 3 < numAt s 13 1
    · rw [if_pos c2] at h; cases h
    rw [if_neg c2] at h
    by_cases c3 : recE s 14 ≠ 0
    · rw [if_pos c3] at h; exact absurd h c3
    rw [if_neg c3] at h
    by_cases c4 : 14 + 26 + 25 * ((recN s 14).toNat : Int) < s.size
    · rw [if_pos c4] at h; cases h
    have c3' : recE s 14 = 0 := Classical.byContradiction c3
    exact .inr (.inl ⟨k2, by omega, by omega, c3', by have := recE_end c3'; omega⟩)
  rw [if_neg k2] at h
  by_cases k3 : kindN s = 3
  · rw [if_pos k3] at h
    by_cases c1 : viewE s 1 ≠ 0
    · rw [if_pos c1] at h; exact absurd h c1
    rw [if_neg c1] at h
    by_cases c2 : 26 < s.size
    · rw [if_pos c2] at h; cases h
    have c1' : viewE s 1 = 0 := Classical.byContradiction c1
    exact .inr (.inr (.inl ⟨k3, c1', by have := (viewE_zero c1').1; omega⟩))
  rw [if_neg k3] at h
  by_cases c1 : s.size < 13
  · rw [if_pos c1] at h; cases h
  · exact .inr (.inr (.inr ⟨by omega, by omega⟩))
end Go.Proofs.Ytlkemknhmfjdpaa.Pure
/- The log's plain laws: what was printed is read. -/
namespace Go.Proofs.Ytlkemknhmfjdpaa.Pure
open Go.RowKit Go.Proofs.Ytlkemknhmfjdpaa.P Go.Proofs.YtlkemknhmfjdpaaW.PrintWords Go.Proofs.YtlkemknhmfjdpaaW.PrintLast Go.Proofs.YtlkemknhmfjdpaaW.PrintMore
set_option linter.unusedVariables false
set_option linter.unusedSimpArgs false

end Go.Proofs.Ytlkemknhmfjdpaa.Pure
/- The log's plain laws: what PrintItem printed is read. -/
namespace Go.Proofs.Ytlkemknhmfjdpaa.Pure
open Go.RowKit Go.Proofs.Ytlkemknhmfjdpaa.P Go.Proofs.YtlkemknhmfjdpaaW.PrintWords Go.Proofs.YtlkemknhmfjdpaaW.PrintLast Go.Proofs.YtlkemknhmfjdpaaW.PrintMore
set_option linter.unusedVariables false
set_option linter.unusedSimpArgs false

end Go.Proofs.Ytlkemknhmfjdpaa.Pure
/- The log's plain laws: what is the same compares as the same. -/
namespace Go.Proofs.Ytlkemknhmfjdpaa.Pure
open Go.RowKit Go.Proofs.Ytlkemknhmfjdpaa.P Go.Proofs.YtlkemknhmfjdpaaW.PrintWords Go.Proofs.YtlkemknhmfjdpaaW.PrintLast Go.Proofs.YtlkemknhmfjdpaaW.PrintMore
set_option linter.unusedVariables false
set_option linter.unusedSimpArgs false

theorem views_same (l : List S27) (hl : l.length ≤ 1000000) : ∀ (d k i : Nat), i + d = l.length → d < k → consortref18_Views.l0 k l l (i : Int) = some true
  | 0, k, i, h, hk => by
    obtain ⟨k, rfl⟩ : ∃ m, k = m + 1 := ⟨k - 1, by omega⟩
    rw [consortref18_Views.l0, if_neg (by omega)]
  | d + 1, k, i, h, hk => by
    obtain ⟨k, rfl⟩ : ∃ m, k = m + 1 := ⟨k - 1, by omega⟩
    have e : wrap64 ((i : Int) + 1) = ((i + 1 : Nat) : Int) := by unfold wrap64; omega
    rw [consortref18_Views.l0, if_pos (by omega), if_pos (by omega), if_pos (by omega), if_neg (by simp), e]
    exact views_same l hl d k (i + 1) (by omega) (by omega)
theorem same_same (l : List S27) (hl : l.length ≤ 1000) (a b c d : Int) : consortref18_Same.f 1002 a b c d l a b c d l = some true := by
  rw [consortref18_Same.f, if_pos (by simp), consortref18_Views.f, if_pos rfl, show (0 : Int) = ((0 : Nat) : Int) from rfl, views_same l (by omega) l.length 1002 0 (by omega) (by omega)]
  rfl
theorem stables_same (l : List S27) (hl : l.length ≤ 1000) (p q a b c d : Int) : consortref19_Stables.f 1002 p q a b c d l p q a b c d l = some true := by
  rw [consortref19_Stables.f, if_pos rfl, if_pos rfl, same_same l hl]
  rfl
end Go.Proofs.Ytlkemknhmfjdpaa.Pure
