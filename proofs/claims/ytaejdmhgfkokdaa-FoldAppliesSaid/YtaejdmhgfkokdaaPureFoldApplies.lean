/- Any state and any row of messages come to just the document's state, one by one, and in whatever two parts. -/
import Derived.Test.YtaejdmhgfkokdaaStaFoldApplies
import Derived.Test.YtaejdmhgfkokdaaFoldLaw
namespace Go.Proofs.Ytaejdmhgfkokdaa.Pure
open Go.RowKit Go.Proofs.Ytaejdmhgfkokdaa.P Go.Proofs.YtaejdmhgfkokdaaW.PrintWords Go.Proofs.YtaejdmhgfkokdaaW.PrintLast Go.Proofs.YtaejdmhgfkokdaaW.PrintMore

theorem applies_end (l : List S27) (hm : l.length ≤ maxLen) (hw : ∀ a ∈ l, wf27 a) (s : ByteArray) (hs : s.size ≤ 20000) (c : Int) (k : Nat) (hk : l.length + 9 < k) :
    ((fold_All.f k s l).bind fun t139 => (if t139.toList = (steps s l).toList then (if c < 0 then (some true) else (if c > (l.length : Int) then (some true) else (if 0 ≤ c then (if c ≤ (l.length : Int) then ((fold_All.f k s (l.take (c : Int).toNat)).bind fun t144 => ((fold_All.f k t144 (l.drop (c : Int).toNat)).bind fun t149 => (some (t149.toList == (steps s l).toList)))) else (none)) else (none)))) else (some false))) = some true := by
  rw [all_is k l hm hw hk s (by omega), Option.bind_some, if_pos rfl]
  by_cases h1 : c < 0
  · rw [if_pos h1]
  · by_cases h2 : c > (l.length : Int)
    · rw [if_neg h1, if_pos h2]
    · obtain ⟨m, rfl⟩ := Int.eq_ofNat_of_zero_le (show 0 ≤ c by omega)
      rw [if_neg h1, if_neg h2, if_pos (by omega), if_pos (by omega), Int.toNat_natCast]
      simp only [maxLen] at hm
      rw [all_is k (l.take m) (by simp only [maxLen, List.length_take]; omega) (fun a ha => hw a (List.mem_of_mem_take ha)) (by rw [List.length_take]; omega) s (by omega), Option.bind_some]
      rw [all_is k (l.drop m) (by simp only [maxLen, List.length_drop]; omega) (fun a ha => hw a (List.mem_of_mem_drop ha)) (by rw [List.length_drop]; omega) _ (steps_size (by omega)), Option.bind_some]
      have he : steps (steps s (l.take m)) (l.drop m) = steps s l := by
        rw [steps, steps, ← List.foldl_append, List.take_append_drop, steps]
      rw [he, beq_self_eq_true]
theorem applies_loop (l : List S27) (hm : l.length ≤ maxLen) (hw : ∀ a ∈ l, wf27 a) (s : ByteArray) (hs : s.size ≤ 20000) (c : Int) : ∀ (d k i : Nat), i + d = l.length → d + l.length + 20 < k →
    consortlaw22_FoldApplies.l0 k s l c (steps s (l.take i)) (i : Int) = some true := by
  have hm' := hm
  simp only [maxLen] at hm'
  intro d
  induction d with
  | zero =>
    intro k i hd hk
    obtain ⟨k, rfl⟩ : ∃ m, k = m + 1 := ⟨k - 1, by omega⟩
    simp only [consortlaw22_FoldApplies.l0]
    rw [if_neg (by omega), List.take_of_length_le (by omega)]
    exact applies_end l hm hw s hs c k (by omega)
  | succ d ih =>
    intro k i hd hk
    obtain ⟨k, rfl⟩ : ∃ m, k = m + 1 := ⟨k - 1, by omega⟩
    simp only [consortlaw22_FoldApplies.l0]
    have hi : i < l.length := by omega
    have hf := (hw _ (rd_mem hi)).2
    have hss : (steps s (l.take i)).size ≤ 281474976702464 := steps_size (by omega)
    rw [if_pos (by omega), if_pos (by omega), ref_is _ _ _ hss hf, Option.bind_some, apply_is k (by omega) _ _ _ hss hf, Option.bind_some, if_pos rfl]
    have e4 : wrap64 ((i : Int) + 1) = ((i + 1 : Nat) : Int) := by rw [wrap_in (by omega) (by omega)]; omega
    have e5 : app (steps s (l.take i)) (rd_T27 l (i : Int)).f0 (rd_T27 l (i : Int)).f1 = steps s (l.take (i + 1)) := by
      rw [List.take_succ_eq_append_getElem hi, steps, steps, List.foldl_append, List.foldl_cons, List.foldl_nil]
      have : rd_T27 l (i : Int) = l[i] := by simp [rd_T27, List.getD_eq_getElem?_getD, hi]
      rw [this]
    rw [e4, e5]
    exact ih k (i + 1) (by omega) (by omega)
theorem FoldApplies : consortlaw22_FoldApplies.Pure := by
  rintro s l c hs ⟨_, hm, hw⟩ hc
  obtain ⟨b, hb⟩ := few_is l hm l.length (2 * l.length + 40) 0 0 (by omega) (by omega)
  refine ⟨2 * l.length + 40, ?_⟩
  unfold consortlaw22_FoldApplies.f
  rw [awake_is _ (by omega), Option.bind_some, if_pos rfl]
  have hj : consortlaw22_FoldApplies.j0 (2 * l.length + 40) s l c true = some true := by
    simp only [consortlaw22_FoldApplies.j0]
    rw [if_pos trivial]
  by_cases h : (s.size : Int) > 20000
  · rw [if_pos h]; exact hj
  · rw [if_neg h]
    have hb' : consortlaw22_few.f (2 * l.length + 40) l = some b := hb
    rw [hb', Option.bind_some]
    cases b with
    | false => exact hj
    | true =>
      simp only [consortlaw22_FoldApplies.j0]
      rw [if_neg (by simp)]
      have := applies_loop l hm hw s (by omega) c l.length (2 * l.length + 39) 0 (by omega) (by omega)
      exact this
end Go.Proofs.Ytaejdmhgfkokdaa.Pure
