/- The reference's Put: its plain law. -/
import Derived.Test.YtjolbpfileiipaaPx2
import Derived.Test.YtjolbpfileiipaaNumLaw
namespace Go.Proofs.Ytjolbpfileiipaa.Pure
open Go.RowKit Go.Proofs.Ytjolbpfileiipaa.P Go.Proofs.YtjolbpfileiipaaW.PrintWords Go.Proofs.YtjolbpfileiipaaW.PrintLast Go.Proofs.YtjolbpfileiipaaW.PrintMore
set_option linter.unusedVariables false
set_option linter.unusedSimpArgs false

theorem putL_cons (v : Int) (i : Nat) : putL v (i + 1) = (v / 2 ^ (8 * i) % 256) :: putL v i := by
  unfold putL
  rw [List.range_succ_eq_map, List.map_cons, List.map_map]
  congr 1
  refine List.map_congr_left fun j hj => ?_
  show byteAt v (i + 1) (j + 1) = byteAt v i j
  unfold byteAt
  rw [show i + 1 - 1 - (j + 1) = i - 1 - j by omega]
theorem D_strOfNums_append (a b : List Int) : strOfNums a ++ strOfNums b = strOfNums (a ++ b) := by
  apply D_inj
  rw [D_append]
  simp [D, strOfNums]
theorem strOfNums_bytesOf (s : ByteArray) : strOfNums (bytesOf s) = s := by
  apply D_inj
  simp only [D, strOfNums, bytesOf]
  simp only [List.map_map, List.toList_toArray]
  conv => rhs; rw [← List.map_id s.data.toList]
  refine List.map_congr_left fun b _ => ?_
  simp
theorem refsize_is (a : Int) : consortref01_size.f a = some (((min a 8).toNat : Nat) : Int) := by
  unfold consortref01_size.f
  by_cases h1 : a < 0
  · rw [if_pos h1]; congr 1; omega
  · rw [if_neg h1]
    by_cases h2 : a > 8
    · rw [if_pos h2]; congr 1; omega
    · rw [if_neg h2]; congr 1; omega
theorem refput_loop (s : ByteArray) (v a2 : Int) (n : Nat) (hn : (min a2 8).toNat = n) (h0 : 0 ≤ v) (h1 : v ≤ 18446744073709551615) (hs : s.size ≤ 1000000) : ∀ (d k i : Nat), i + d = n → d < k →
    consortref01_Put.l0 k s (v / 2 ^ (8 * i)) a2 (strOfNums (putL v i)) (i : Int) = some (s ++ strOfNums (putL v n)) := by
  have h8 : n ≤ 8 := by omega
  intro d
  induction d with
  | zero =>
    intro k i hd hk
    obtain ⟨k, rfl⟩ : ∃ m, k = m + 1 := ⟨k - 1, by omega⟩
    simp only [consortref01_Put.l0]
    rw [refsize_is, hn, Option.bind_some, if_neg (by omega), show i = n by omega, if_pos (by rw [strOfNums_size, putL_length]; omega)]
  | succ d ih =>
    intro k i hd hk
    obtain ⟨k, rfl⟩ : ∃ m, k = m + 1 := ⟨k - 1, by omega⟩
    have hsz : ∀ y : Int, (strOfNums [y]).size + (strOfNums (putL v i)).size ≤ 9223372036854775807 := fun y => by
      rw [strOfNums_size, strOfNums_size, putL_length, List.length_singleton]
      have : i ≤ 8 := by omega
      clear ih h0 h1 hs
      omega
    have hx0 : 0 ≤ v / 2 ^ (8 * i) := Int.ediv_nonneg h0 (Int.le_of_lt (Int.pow_pos (by decide)))
    have hx1 : v / 2 ^ (8 * i) ≤ v := Int.ediv_le_self _ h0
    have hdd : v / 2 ^ (8 * i) / 256 = v / 2 ^ (8 * (i + 1)) := by
      rw [Int.ediv_ediv_of_nonneg (Int.le_of_lt (Int.pow_pos (by decide))), show (256 : Int) = 2 ^ 8 by decide, ← Int.pow_add]
      rfl
    have hw : IntKind.u64.wrap (Int.tdiv (v / 2 ^ (8 * i)) 256) = v / 2 ^ (8 * (i + 1)) := by
      rw [Int.tdiv_eq_ediv_of_nonneg hx0, hdd, u64_wrap]
      have hy0 : 0 ≤ v / 2 ^ (8 * (i + 1)) := Int.ediv_nonneg h0 (Int.le_of_lt (Int.pow_pos (by decide)))
      have hy1 : v / 2 ^ (8 * (i + 1)) ≤ v := Int.ediv_le_self _ h0
      omega
    have hm : Int.tmod (v / 2 ^ (8 * i)) 256 % 256 = v / 2 ^ (8 * i) % 256 := by
      rw [Int.tmod_eq_emod_of_nonneg hx0, Int.emod_emod]
    have ew : wrap64 ((i : Int) + 1) = ((i + 1 : Nat) : Int) := by rw [wrap_in (by omega) (by omega)]; omega
    simp only [consortref01_Put.l0]
    rw [refsize_is, hn, Option.bind_some, if_pos (by omega), Option.bind_some, hm, hw, ew, D_strOfNums_append, List.singleton_append, ← putL_cons, if_pos (hsz _)]
    clear hw hm ew hdd hx0 hx1 hsz
    exact ih k (i + 1) (by omega) (by omega)
/-- The reference's Put. -/
theorem refput_is (k : Nat) (hk : 9 ≤ k) (s : ByteArray) (v a2 : Int) (h0 : 0 ≤ v) (h1 : v ≤ 18446744073709551615) (hs : s.size ≤ 1000000) : consortref01_Put.f k s v a2 = some (strOfNums (bytesOf s ++ putL v (min a2 8).toNat)) := by
  unfold consortref01_Put.f
  have h := refput_loop s v a2 _ rfl h0 h1 hs (min a2 8).toNat k 0 (by omega) (by omega)
  rw [Nat.mul_zero, Int.pow_zero, Int.ediv_one] at h
  rw [← D_strOfNums_append, strOfNums_bytesOf]
  exact h
end Go.Proofs.Ytjolbpfileiipaa.Pure
