/- NumBack's plain law: the number of what was put. -/
import Derived.Test.YtjolbpfileiipaaNumLaw
import Derived.Laws.BytesArg
namespace Go.Proofs.Ytjolbpfileiipaa.Pure
open Go.RowKit Go.Proofs.Ytjolbpfileiipaa.P Go.Proofs.YtjolbpfileiipaaW.PrintWords Go.Proofs.YtjolbpfileiipaaW.PrintLast Go.Proofs.YtjolbpfileiipaaW.PrintMore
set_option linter.unusedVariables false

def toB (l : List Int) : List UInt8 := l.map fun n => UInt8.ofNat n.toNat
theorem toB_append (a b : List Int) : toB (a ++ b) = toB a ++ toB b := List.map_append
theorem D_strOfNums (l : List Int) : D (strOfNums l) = toB l := rfl
theorem toB_bytesOf (s : ByteArray) : toB (bytesOf s) = D s := by
  unfold toB bytesOf D
  rw [List.map_map]
  conv => rhs; rw [← List.map_id s.data.toList]
  apply List.map_congr_left
  intro x _
  simp
theorem putL_succ (v : Nat) (n : Nat) : putL (v : Int) (n + 1) = putL ((v / 256 : Nat) : Int) n ++ [((v % 256 : Nat) : Int)] := by
  unfold putL
  rw [List.range_succ, List.map_append]
  congr 1
  · apply List.map_congr_left
    intro j hj
    rw [List.mem_range] at hj
    unfold byteAt
    have e : 8 * (n + 1 - 1 - j) = 8 + 8 * (n - 1 - j) := by omega
    rw [e, Int.pow_add]
    have : ((v / 256 : Nat) : Int) = (v : Int) / 2 ^ 8 := by omega
    rw [this, Int.ediv_ediv_of_nonneg (by omega)]
  · simp [byteAt]
theorem valN_putL : ∀ (n v : Nat), valN (toB (putL (v : Int) n)) = v % 256 ^ n
  | 0, v => by simp [putL, toB, valN, Nat.mod_one]
  | n + 1, v => by
    rw [putL_succ, toB_append]
    show valN (toB (putL ((v / 256 : Nat) : Int) n) ++ [UInt8.ofNat ((v % 256 : Nat) : Int).toNat]) = _
    rw [valN_snoc, valN_putL n (v / 256), Int.toNat_natCast]
    have h1 : (UInt8.ofNat (v % 256)).toNat = v % 256 := by simp
    rw [h1, Nat.pow_succ, Nat.mul_comm (256 ^ n) 256, Nat.mod_mul]
    omega
theorem putL_len (v : Int) (n : Nat) : (toB (putL v n)).length = n := by simp [toB, putL_length]
/-- What was put is got. -/
theorem back_is (a0 a1 : ByteArray) (v : Nat) (m : Nat) (h1 : 1 ≤ m) (h8 : m ≤ 8) (hv : v < 18446744073709551616) (hz : a0.size ≤ 10000) (hz1 : a1.size ≤ 10000) :
    num_Get.f (strOfNums (bytesOf a0 ++ putL (v : Int) m) ++ a1) (a0.size : Int) (m : Int) = some (((v % 256 ^ m : Nat) : Int), true) := by
  have hl : (strOfNums (bytesOf a0 ++ putL (v : Int) m) ++ a1).size = a0.size + m + a1.size := by
    rw [ByteArray.size_append, strOfNums_size, List.length_append, bytesOf_length, putL_length]
  rw [get_is _ _ _ (by omega) (by omega) (by omega)]
  unfold getR
  rw [if_pos (by omega), D_append, D_strOfNums, toB_append, toB_bytesOf]
  have e : (((D a0 ++ toB (putL (v : Int) m) ++ D a1).drop ((a0.size : Int)).toNat).take ((m : Int)).toNat) = toB (putL (v : Int) m) := by
    rw [Int.toNat_natCast, Int.toNat_natCast, List.append_assoc, List.drop_append_of_le_length (by rw [D_size]; omega), ← D_size, List.drop_length, List.nil_append, List.take_append_of_le_length (by rw [putL_len]; omega), List.take_of_length_le (by rw [putL_len]; omega)]
  rw [e, valN_putL]
end Go.Proofs.Ytjolbpfileiipaa.Pure
