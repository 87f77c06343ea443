/- A state that a message was applied to has at most 4096 bytes, ends with the message's bytes, as far as these are so many, and begins as it did, as long as there is room. -/
import Derived.Test.YtaejdmhgfkokdaaStaFoldLast
import Derived.Test.YtaejdmhgfkokdaaFoldLaw
namespace Go.Proofs.Ytaejdmhgfkokdaa.Pure
open Go.RowKit Go.Proofs.Ytaejdmhgfkokdaa.P Go.Proofs.YtaejdmhgfkokdaaW.PrintWords Go.Proofs.YtaejdmhgfkokdaaW.PrintLast Go.Proofs.YtaejdmhgfkokdaaW.PrintMore

theorem D_app (s : ByteArray) (f : Int) (d : ByteArray) : D (app s f d) = (D s ++ D (entry f d)).drop (s.size + (entry f d).size - 4096) := by
  rw [app, D_to_end, D_append, ByteArray.size_append]
theorem D_entry (f : Int) (d : ByteArray) : D (entry f d) = D (hdr f (cut d).size) ++ D (cut d) := by rw [entry, D_append]
theorem last_bytes (s : ByteArray) (f : Int) (d : ByteArray) (hd : d.size ≤ 60000) (n : Nat) (hn : n = min d.size 4096) :
    (app s f d).extract ((app s f d).size - n) (app s f d).size = d.extract (d.size - n) d.size := by
  apply D_inj
  have e1 := app_size s f d
  have e2 := entry_size f d
  rw [D_to_end, D_to_end, D_app, List.drop_drop, D_entry, cut_short (by omega), ← List.append_assoc]
  have h3 := hdr_size f d.size
  rw [List.drop_append, List.drop_of_length_le (by rw [List.length_append, D_size, D_size]; omega), List.nil_append]
  refine congrArg (fun q => List.drop q (D d)) ?_
  rw [List.length_append, D_size, D_size]
  omega
theorem first_bytes (s : ByteArray) (f : Int) (d : ByteArray) (h : s.size + d.size + 3 ≤ 4096) : (app s f d).extract 0 s.size = s := by
  apply D_inj
  have e2 := entry_size f d
  rw [D_extract, D_app, List.drop_zero, show s.size + (entry f d).size - 4096 = 0 by omega, List.drop_zero, Nat.sub_zero, List.take_append_of_le_length (by rw [D_size]; omega), List.take_of_length_le (by rw [D_size]; omega)]
theorem last_j1 (k : Nat) (hk : 1 ≤ k) (s : ByteArray) (f : Int) (d : ByteArray) (hs : s.size ≤ 20000) (hd : d.size ≤ 60000) :
    consortlaw22_FoldLast.j1 k s (app s f d) false f d = some true := by
  obtain ⟨k, rfl⟩ : ∃ m, k = m + 1 := ⟨k - 1, by omega⟩
  have e1 := app_size s f d
  simp only [consortlaw22_FoldLast.j1]
  rw [if_neg (by simp)]
  have ew : wrap64 (wrap64 ((s.size : Int) + (d.size : Int)) + 3) = ((s.size + d.size + 3 : Nat) : Int) := by
    rw [wrap_in (x := (s.size : Int) + (d.size : Int)) (by omega) (by omega), wrap_in (by omega) (by omega)]; omega
  rw [ew]
  by_cases h : s.size + d.size + 3 ≤ 4096
  · rw [if_pos (by omega), if_pos (by omega), if_pos (by omega), if_pos (by omega), Int.toNat_natCast, first_bytes s f d h, beq_self_eq_true]
  · rw [if_neg (by omega)]
    have : ((app s f d).size : Int) = 4096 := by omega
    rw [this]
    rfl
theorem FoldLast : consortlaw22_FoldLast.Pure := by
  rintro s ⟨f, d⟩ hs ⟨_, hd⟩
  simp only at hs hd
  refine ⟨40, ?_⟩
  unfold consortlaw22_FoldLast.f
  rw [awake_is _ (by omega), Option.bind_some, if_pos rfl]
  have hj : consortlaw22_FoldLast.j0 40 s true f d = some true := by
    simp only [consortlaw22_FoldLast.j0]
    rw [if_pos trivial]
  by_cases h : (s.size : Int) > 20000
  · rw [if_pos h]; exact hj
  · rw [if_neg h]
    by_cases h2 : (d.size : Int) > 60000
    · rw [decide_eq_true h2]; exact hj
    · rw [decide_eq_false h2]
      have hd2 : d.size ≤ 60000 := by omega
      have e1 := app_size s f d
      simp only [consortlaw22_FoldLast.j0]
      rw [if_neg (by simp), apply_is 39 (by omega) s f d (by omega) hd, Option.bind_some]
      have em : mn (d.size : Int) 4096 = ((min d.size 4096 : Nat) : Int) := by unfold mn; split <;> omega
      have w1 : wrap64 (((app s f d).size : Int) - ((min d.size 4096 : Nat) : Int)) = (((app s f d).size - min d.size 4096 : Nat) : Int) := by rw [wrap_in (by omega) (by omega)]; omega
      have w2 : wrap64 ((d.size : Int) - ((min d.size 4096 : Nat) : Int)) = ((d.size - min d.size 4096 : Nat) : Int) := by rw [wrap_in (by omega) (by omega)]; omega
      rw [em, w1, w2, if_neg (by omega), if_neg (by omega), if_pos (by omega), if_pos (by omega), if_pos (by omega), if_pos (by omega), Int.toNat_natCast, Int.toNat_natCast, last_bytes s f d hd2 _ rfl, bne_self_eq_false]
      exact last_j1 39 (by omega) s f d (by omega) hd2
end Go.Proofs.Ytaejdmhgfkokdaa.Pure
