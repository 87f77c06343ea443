/- NumBack's walk, by hand: what was put is got. -/
import Derived.Test.YtjolbpfileiipaaPx2
import Derived.Test.YtjolbpfileiipaaNumBackL
import Derived.Lib.Hide
import Derived.Outline
namespace Go.Proofs.Ytjolbpfileiipaa.P
open Go.RowKit Go.Proofs.YtjolbpfileiipaaW.PrintWords Go.Proofs.YtjolbpfileiipaaW.PrintLast Go.Proofs.YtjolbpfileiipaaW.PrintMore
attribute [local go_sem] max2_int min2_int max_two min_two max_three min_three max_four min_four
set_option linter.unusedVariables false
set_option linter.unusedSimpArgs false

theorem conv_reads (w : World) (s : ByteArray) (l : List Int) (hl : l = bytesOf s) (hs : s.size ≤ 9223372036854775807) : ∃ (cap : Nat) (W1 : World), (convert 9 22 (.string s)).run Try.prog w = .ok (.slice (some ⟨w.heap.size, 0, none⟩) l.length cap) W1 ∧ Below w.heap.size w W1 ∧
    Kd.C (Kd.int .u8) W1 (some ⟨w.heap.size, 0, none⟩) l.length l ∧ l.length ≤ cap := by
  subst hl
  have hr := Lib.run_convert_string_bytes w 9 22 5 s Try.underlying9 Try.underlying22 Try.underlying5
  rw [bytesOf_length]
  refine ⟨_, _, hr, bytes_below (Below.refl _ _) (Nat.le_refl _) 5 s, Kd.C_of_reads (d := 0) (bytes_reads w 5 s hs), grownCap_ge _ _ _ _⟩
theorem shl8 (m : Nat) (h1 : 1 ≤ m) (h7 : m ≤ 7) (w : World) : (Op.shift BinOp.shl IntKind.u64 1 IntKind.i64 (wrap64 (8 * (m : Int)))).run Try.prog w = .ok (.int .u64 ((256 ^ m : Nat) : Int)) w := by
  obtain rfl | rfl | rfl | rfl | rfl | rfl | rfl : m = 1 ∨ m = 2 ∨ m = 3 ∨ m = 4 ∨ m = 5 ∨ m = 6 ∨ m = 7 := by omega
  all_goals kernel_rfl
def consortlaw01_NumBack.f (a0 a1 : ByteArray) (a2 a3 : Int) : Option Bool := if (0 ≤ a2 ∧ a2 ≤ 18446744073709551615) ∧ (-9223372036854775808 ≤ a3 ∧ a3 ≤ 9223372036854775807) then some true else none
set_option maxHeartbeats 8000000 in
set_option maxRecDepth 100000 in
theorem consortlaw01_NumBack.calls (a0 a1 : ByteArray) (a2 a3 : Int) (w : World) (h : consortlaw01_NumBack.f a0 a1 a2 a3 = some true) :
    Calls Try.prog 5 #[.string a0, .string a1, .int .u64 a2, .int .i64 a3] w fun e w' => e = .returned (.bool true) ∧ Below w.heap.size w w' := by
  unfold consortlaw01_NumBack.f at h
  by_cases hb : (0 ≤ a2 ∧ a2 ≤ 18446744073709551615) ∧ (-9223372036854775808 ≤ a3 ∧ a3 ≤ 9223372036854775807)
  rotate_left
  · rw [if_neg hb] at h
    cases h
  clear h
  have HA := Aside0.mk (Pure.awake_is 20 (by omega))
  go_enter Try.func5, Try.ntmps5
  by_cases d0 : 10000 < (a0.size : Int)
  · have b0 : decide (10000 < (a0.size : Int)) = true := decide_eq_true d0
    clear hb d0
    go_wp2_with (go_at_call 8; (with_reducible refine (consortlaw01_awake.calls 20 true _ HA.out).mono ?_); rintro e w1 ⟨rfl, hb⟩; have HB := Aside0.mk hb; clear hb)
    go_ret
    exact ⟨rfl, HB.out⟩
  have b0 : decide (10000 < (a0.size : Int)) = false := decide_eq_false d0
  by_cases d1 : 10000 < (a1.size : Int)
  · have b1 : decide (10000 < (a1.size : Int)) = true := decide_eq_true d1
    clear hb d0 d1
    go_wp2_with (go_at_call 8; (with_reducible refine (consortlaw01_awake.calls 20 true _ HA.out).mono ?_); rintro e w1 ⟨rfl, hb⟩; have HB := Aside0.mk hb; clear hb)
    go_ret
    exact ⟨rfl, HB.out⟩
  have b1 : decide (10000 < (a1.size : Int)) = false := decide_eq_false d1
  by_cases d2 : a3 < 1
  · have b2 : decide (a3 < 1) = true := decide_eq_true d2
    clear hb d0 d1 d2
    go_wp2_with (go_at_call 8; (with_reducible refine (consortlaw01_awake.calls 20 true _ HA.out).mono ?_); rintro e w1 ⟨rfl, hb⟩; have HB := Aside0.mk hb; clear hb)
    go_ret
    exact ⟨rfl, HB.out⟩
  have b2 : decide (a3 < 1) = false := decide_eq_false d2
  by_cases d3 : 8 < a3
  · have b3 : decide (8 < a3) = true := decide_eq_true d3
    clear hb d0 d1 d2 d3
    go_wp2_with (go_at_call 8; (with_reducible refine (consortlaw01_awake.calls 20 true _ HA.out).mono ?_); rintro e w1 ⟨rfl, hb⟩; have HB := Aside0.mk hb; clear hb)
    go_ret
    exact ⟨rfl, HB.out⟩
  have b3 : decide (8 < a3) = false := decide_eq_false d3
  obtain ⟨v, rfl⟩ := Int.eq_ofNat_of_zero_le hb.1.1
  obtain ⟨m, rfl⟩ := Int.eq_ofNat_of_zero_le (show 0 ≤ a3 by omega)
  have HM := Aside0.mk (show 1 ≤ m ∧ m ≤ 8 by omega)
  have HV := Aside0.mk (show v < 18446744073709551616 by omega)
  have H0 := Aside0.mk (show a0.size ≤ 10000 by omega)
  have H1 := Aside0.mk (show a1.size ≤ 10000 by omega)
  obtain ⟨l, hl⟩ : ∃ l, l = bytesOf a0 := ⟨_, rfl⟩
  have hp := Pure.put_is 9 (by omega) l v m (by rw [hl, bytesOf_length]; omega)
  rw [show (min (m : Int) 8).toNat = m by omega] at hp
  have HP := Aside0.mk hp
  have HL := Aside0.mk hl
  clear hl hp d0 d1 d2 d3 hb
  have hs2 : (strOfNums (l ++ Pure.putL v m)).size = a0.size + m := by rw [strOfNums_size, List.length_append, HL.out, bytesOf_length, Pure.putL_length]
  have hg := Pure.back_is a0 a1 v m HM.out.1 HM.out.2 HV.out H0.out H1.out
  rw [← HL.out] at hg
  obtain ⟨S, hS⟩ : ∃ S, S = strOfNums (l ++ Pure.putL v m) := ⟨_, rfl⟩
  rw [← hS] at hs2 hg
  obtain ⟨r, hr⟩ : ∃ r : Int, r = ((v % 256 ^ m : Nat) : Int) := ⟨_, rfl⟩
  rw [← hr] at hg
  have HS := Aside0.mk hS
  have HS2 := Aside0.mk hs2
  have HR := Aside0.mk hr
  have HG := Aside0.mk hg
  clear hS hs2 hr hg
  have hz : (9223372036854775807 < S.size + a1.size) = False := eq_false (by have := HS2.out; have := H0.out; have := H1.out; have := HM.out; omega)
  by_cases d4 : m < 8
  · have b4 : decide ((m : Int) < 8) = true := decide_eq_true (by omega)
    obtain ⟨P, hP⟩ : ∃ P, P = ((256 ^ m : Nat) : Int) := ⟨_, rfl⟩
    have hsh := shl8 m HM.out.1 (by omega)
    rw [← hP] at hsh
    have hP0 : 0 < P := by rw [hP]; exact Int.natCast_pos.2 (Nat.pow_pos (by omega))
    have br : (r == (v : Int) % P) = true := by rw [HR.out, hP]; simp
    have HPP := Aside0.mk hP
    clear hP
    clear d4
    go_wp2_with (first | (go_at_call 8; (with_reducible refine (consortlaw01_awake.calls 20 true _ HA.out).mono ?_); rintro e w1 ⟨rfl, hb⟩; have HB := Aside0.mk hb; clear hb; obtain ⟨cap, W1, hrun, hB1, hC, hcap⟩ := conv_reads w1 a0 l HL.out (by have := H0.out; omega); have HB1 := Aside0.mk (below_step HB.out hB1); have HC := Aside0.mk hC; have HCAP := Aside0.mk hcap; clear hB1 hC hcap) | (go_at_call 9; (with_reducible refine (num_Put.calls 9 _ cap l v m _ _ HC.out HCAP.out HP.out).mono ?_); rintro e w2 ⟨v0, rfl, ho, hb⟩; have HB2 := Aside0.mk (below_step HB1.out hb); have hcv := own_string (P := Try.prog) Try.underlying22 Try.underlying5 Try.underlying9 (Kd.own_of_R ho); rw [← HS.out] at hcv; clear ho hb) | (go_at_call 11; (with_reducible refine (num_Get.calls (S ++ a1) (a0.size : Int) (m : Int) r true _ HG.out).mono ?_); rintro e w3 ⟨rfl, hb⟩; have HB3 := Aside0.mk (below_step HB2.out hb); clear hb))
    go_ret
    have hq : ((S.size : Int) + (a1.size : Int) == wrap64 (wrap64 ((a0.size : Int) + (m : Int)) + (a1.size : Int))) = true := by
      have h0 := H0.out
      have h1 := H1.out
      have h2 := HS2.out
      have h3 := HM.out
      clear br
      rw [Pure.wrap_in (x := (a0.size : Int) + m) (by omega) (by omega), Pure.wrap_in (by omega) (by omega), beq_iff_eq]
      omega
    exact ⟨by rw [hq]; rfl, HB3.out⟩
  · have b4 : decide ((m : Int) < 8) = false := decide_eq_false (by omega)
    have br : (r == (v : Int)) = true := by
      have hm8 : m = 8 := by have := HM.out; omega
      have hv := HV.out
      rw [HR.out, hm8, beq_iff_eq]
      omega
    clear d4
    go_wp2_with (first | (go_at_call 8; (with_reducible refine (consortlaw01_awake.calls 20 true _ HA.out).mono ?_); rintro e w1 ⟨rfl, hb⟩; have HB := Aside0.mk hb; clear hb; obtain ⟨cap, W1, hrun, hB1, hC, hcap⟩ := conv_reads w1 a0 l HL.out (by have := H0.out; omega); have HB1 := Aside0.mk (below_step HB.out hB1); have HC := Aside0.mk hC; have HCAP := Aside0.mk hcap; clear hB1 hC hcap) | (go_at_call 9; (with_reducible refine (num_Put.calls 9 _ cap l v m _ _ HC.out HCAP.out HP.out).mono ?_); rintro e w2 ⟨v0, rfl, ho, hb⟩; have HB2 := Aside0.mk (below_step HB1.out hb); have hcv := own_string (P := Try.prog) Try.underlying22 Try.underlying5 Try.underlying9 (Kd.own_of_R ho); rw [← HS.out] at hcv; clear ho hb) | (go_at_call 11; (with_reducible refine (num_Get.calls (S ++ a1) (a0.size : Int) (m : Int) r true _ HG.out).mono ?_); rintro e w3 ⟨rfl, hb⟩; have HB3 := Aside0.mk (below_step HB2.out hb); clear hb))
    go_ret
    have hq : ((S.size : Int) + (a1.size : Int) == wrap64 (wrap64 ((a0.size : Int) + (m : Int)) + (a1.size : Int))) = true := by
      have h0 := H0.out
      have h1 := H1.out
      have h2 := HS2.out
      have h3 := HM.out
      clear br
      rw [Pure.wrap_in (x := (a0.size : Int) + m) (by omega) (by omega), Pure.wrap_in (by omega) (by omega), beq_iff_eq]
      omega
    exact ⟨by rw [hq]; rfl, HB3.out⟩
end Go.Proofs.Ytjolbpfileiipaa.P
