/- num.Put's plain law: what it answers, in closed form. -/
import Derived.Test.YtjolbpfileiipaaPx1
namespace Go.Proofs.Ytjolbpfileiipaa.Pure
open Go.RowKit Go.Proofs.Ytjolbpfileiipaa.P Go.Proofs.YtjolbpfileiipaaW.PrintWords Go.Proofs.YtjolbpfileiipaaW.PrintLast Go.Proofs.YtjolbpfileiipaaW.PrintMore
set_option linter.unusedVariables false

/-- Byte j of the number v of n bytes. -/
def byteAt (v : Int) (n j : Nat) : Int := v / 2 ^ (8 * (n - 1 - j)) % 256
/-- The number v of n bytes. -/
def putL (v : Int) (n : Nat) : List Int := (List.range n).map (byteAt v n)
theorem putL_length (v : Int) (n : Nat) : (putL v n).length = n := by simp [putL]
theorem wrap_in {x : Int} (h0 : -9223372036854775808 ≤ x) (h1 : x ≤ 9223372036854775807) : wrap64 x = x := by unfold wrap64; omega
theorem put_loop (v : Int) (n : Nat) (hn : n ≤ 8) : ∀ (d k i : Nat) (acc : List Int), i + d = n → d < k → acc.length + d < 140737488355328 →
    num_Put.l0 k v n acc n i = some (acc ++ (List.range' i d).map (byteAt v n)) := by
  intro d
  induction d with
  | zero =>
    intro k i acc hd hk hl
    obtain ⟨k, rfl⟩ : ∃ m, k = m + 1 := ⟨k - 1, by omega⟩
    simp only [num_Put.l0]
    rw [if_neg (by omega)]
    simp
  | succ d ih =>
    intro k i acc hd hk hl
    obtain ⟨k, rfl⟩ : ∃ m, k = m + 1 := ⟨k - 1, by omega⟩
    simp only [num_Put.l0]
    have e1 : wrap64 ((n : Int) - 1) = (n : Int) - 1 := wrap_in (by omega) (by omega)
    have e2 : wrap64 ((n : Int) - 1 - i) = (n : Int) - 1 - i := wrap_in (by omega) (by omega)
    have e3 : wrap64 (8 * ((n : Int) - 1 - i)) = 8 * ((n : Int) - 1 - i) := wrap_in (by omega) (by omega)
    have e4 : wrap64 ((i : Int) + 1) = ((i + 1 : Nat) : Int) := by rw [wrap_in (by omega) (by omega)]; omega
    rw [e1, e2, e3, e4, if_pos (by omega), if_pos (by omega), if_pos (by omega)]
    rw [ih k (i + 1) _ (by omega) (by omega) (by rw [List.length_append, List.length_singleton]; omega)]
    have e5 : shr .u64 v (8 * ((n : Int) - 1 - i)) % 256 = byteAt v n i := by
      unfold shr byteAt
      have : min (8 * ((n : Int) - 1 - i)).toNat (IntKind.bits .u64) = 8 * (n - 1 - i) := by simp only [IntKind.bits]; omega
      rw [this]
    rw [e5, List.range'_succ, List.map_cons, List.append_assoc, List.singleton_append]
theorem size_is (n : Int) : num_size.f n = some (((min n 8).toNat : Nat) : Int) := by
  unfold num_size.f mx mn
  congr 1
  repeat' split
  all_goals omega
theorem put_loop0 (v : Int) (m k : Nat) (h8 : m ≤ 8) (hk : m < k) (l : List Int) (hl : l.length < 140737488355000) :
    num_Put.l0 k v m ([] ++ l) m 0 = some (l ++ putL v m) := by
  have h := put_loop v m h8 m k 0 ([] ++ l) (by omega) hk (by simp only [List.nil_append]; omega)
  rw [List.nil_append] at h ⊢
  rw [putL, List.range_eq_range']
  exact h
/-- Put(l, v, n). -/
theorem put_is (k : Nat) (hk : 9 ≤ k) (l : List Int) (v n : Int) (hl : l.length < 140737488355000) :
    num_Put.f k l v n = some (l ++ putL v (min n 8).toNat) := by
  unfold num_Put.f
  rw [size_is, Option.bind_some]
  have h8 : (min n 8).toNat ≤ 8 := by omega
  have e1 : wrap64 ((l.length : Int) + ((min n 8).toNat : Nat)) = (l.length : Int) + ((min n 8).toNat : Nat) := wrap_in (by omega) (by omega)
  have e2 : ((l.length : Int) + ((min n 8).toNat : Nat)).toNat ≤ 281474976710656 := by omega
  have e3 : ([] : List Int).length + l.length < 140737488355328 := by rw [List.length_nil]; omega
  rw [e1, if_pos (by omega), if_pos e2, Option.bind_some, if_pos e3]
  exact put_loop0 v _ k h8 (by omega) l hl
end Go.Proofs.Ytjolbpfileiipaa.Pure
