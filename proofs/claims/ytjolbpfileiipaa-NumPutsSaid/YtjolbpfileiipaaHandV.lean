/- num.value's contract, by hand: the number of a string's bytes. -/
import Derived.Test.YtjolbpfileiipaaPx0
import Derived.Lib.ConvBytes
import Derived.Lib.Hide
namespace Go.Proofs.Ytjolbpfileiipaa.P
open Go.RowKit Go.Proofs.YtjolbpfileiipaaW.PrintWords Go.Proofs.YtjolbpfileiipaaW.PrintLast Go.Proofs.YtjolbpfileiipaaW.PrintMore
set_option linter.unusedVariables false
set_option linter.unusedSimpArgs false

theorem conv_bytes (w : World) (s : ByteArray) : ∃ (cap : Nat) (W1 : World), (convert 9 22 (.string s)).run Try.prog w = .ok (.slice (some ⟨w.heap.size, 0, none⟩) s.size cap) W1 ∧ Below w.heap.size w W1 ∧
    ∀ j : Nat, j < s.size → W1.cell? ⟨w.heap.size, j, none⟩ = some (.int .u8 (s.data.toList.getD j 0).toNat) :=
  ⟨_, _, Lib.run_convert_string_bytes w 9 22 5 s Try.underlying9 Try.underlying22 Try.underlying5, ⟨rfl, rfl, rfl, by rw [Lib.bytesWorld_size]; omega, fun i hi => Lib.bytesWorld_at_old w 5 s i hi⟩, fun j hj => Lib.bytesWorld_cell w 5 s j hj⟩

def valL (l : List UInt8) : Int := l.foldl (fun v c => Go.bits .or .u64 (IntKind.u64.wrap (v * 256)) c.toNat) 0
theorem valL_step (a0 : ByteArray) (k : Nat) (h : k < a0.size) : Go.bits .or .u64 (IntKind.u64.wrap (valL (List.take k a0.data.toList) * 256)) (IntKind.u64.wrap ((a0.data[k]'h).toNat : Int)) = valL (List.take (k + 1) a0.data.toList) := by
  have hl : k < a0.data.toList.length := by rw [Array.length_toList]; exact h
  rw [List.take_succ_eq_append_getElem hl, valL, valL, List.foldl_append, List.foldl_cons, List.foldl_nil, Array.getElem_toList]
  congr 1
  have := (a0.data[k]'h).toNat_lt
  have hu : ∀ n : Int, IntKind.u64.wrap n = n % 18446744073709551616 := fun n => by simp [IntKind.wrap, IntKind.bits, IntKind.signed]
  rw [hu]
  omega
def num_value.f (a0 : ByteArray) : Option Int := if a0.size ≤ 9223372036854775806 then some (valL a0.data.toList) else none
set_option maxHeartbeats 8000000 in
theorem num_value.calls (a0 : ByteArray) (r : Int) (w : World) (h : num_value.f a0 = some r) :
    Calls Try.prog 24 #[.string a0] w fun e w' => e = .returned (.int .u64 r) ∧ Below w.heap.size w w' := by
  unfold num_value.f at h
  by_cases hs : a0.size ≤ 9223372036854775806
  · rw [if_pos hs] at h
    obtain rfl := Option.some.inj h
    obtain ⟨cap, W1, hrun, hB, hcell⟩ := conv_bytes w a0
    have HB := Lib.hid hB
    have HC := Lib.hid hcell
    clear hB hcell
    go_enter Try.func24, Try.ntmps24
    go_wp2
    go_loop [3, 9] (fun v i => ∃ k : Nat, k ≤ a0.size ∧ i = .int .i64 k ∧ v = .int .u64 (valL (a0.data.toList.take k))) (fun _ i => a0.size - (intOf i).toNat)
    case atStart => exact ⟨0, Nat.zero_le _, rfl, rfl⟩
    case round =>
      obtain ⟨k, hk, rfl, rfl⟩ := hrel
      by_cases hlt : k < a0.size
      · have hc := HC.out k hlt
        go_wp2
        exact ⟨⟨k + 1, hlt, by go_num, congrArg (Value.int .u64) (valL_step a0 k hlt)⟩, by simp [intOf]; omega⟩
      · have hk2 : List.take k a0.data.toList = a0.data.toList := List.take_of_length_le (by rw [Array.length_toList]; exact Nat.le_of_not_lt hlt)
        rw [hk2]
        go_wp2
        go_ret
        exact ⟨rfl, HB.out⟩
  · rw [if_neg hs] at h
    cases h
end Go.Proofs.Ytjolbpfileiipaa.P
