/- Of a state only the last 4096 bytes play a part; two states of which one ends as the other does end alike. -/
import Derived.Test.YtaejdmhgfkokdaaStaFoldTail
import Derived.Test.YtaejdmhgfkokdaaFoldLaw
namespace Go.Proofs.Ytaejdmhgfkokdaa.Pure
open Go.RowKit Go.Proofs.Ytaejdmhgfkokdaa.P Go.Proofs.YtaejdmhgfkokdaaW.PrintWords Go.Proofs.YtaejdmhgfkokdaaW.PrintLast Go.Proofs.YtaejdmhgfkokdaaW.PrintMore

theorem D_app2 (s : ByteArray) (f : Int) (d : ByteArray) : D (app s f d) = (D s ++ D (entry f d)).drop ((D s ++ D (entry f d)).length - 4096) := by
  rw [app, D_to_end, D_append, ByteArray.size_append, List.length_append, D_size, D_size]
theorem suffix_app {a b : ByteArray} (h : D b <:+ D a) (f : Int) (d : ByteArray) : D (app b f d) <:+ D (app a f d) := by
  obtain ⟨x, hx⟩ := h
  rw [D_app2, D_app2, ← hx, List.append_assoc]
  generalize D b ++ D (entry f d) = v
  rw [List.length_append, List.drop_append]
  rcases Nat.le_total v.length 4096 with h | h
  · rw [show v.length - 4096 = 0 by omega, show x.length + v.length - 4096 - x.length = 0 by omega, List.drop_zero]
    exact ⟨_, rfl⟩
  · rw [show x.length + v.length - 4096 - x.length = v.length - 4096 by omega, List.drop_of_length_le (l := x) (by omega), List.nil_append]
    exact List.suffix_refl _
theorem same_app {a b : ByteArray} (h : D b <:+ D a) (hb : 4096 ≤ b.size) (f : Int) (d : ByteArray) : app a f d = app b f d := by
  obtain ⟨x, hx⟩ := h
  apply D_inj
  have hl : 4096 ≤ (D b).length := by rw [D_size]; exact hb
  rw [D_app2, D_app2, ← hx, List.append_assoc]
  have hv : 4096 ≤ (D b ++ D (entry f d)).length := by rw [List.length_append]; omega
  generalize D b ++ D (entry f d) = v at *
  rw [List.length_append, List.drop_append, show x.length + v.length - 4096 - x.length = v.length - 4096 by omega, List.drop_of_length_le (l := x) (by omega), List.nil_append]
theorem suffix_steps {l : List S27} : ∀ {a b : ByteArray}, D b <:+ D a → D (steps b l) <:+ D (steps a l) := by
  induction l with
  | nil => intro a b h; exact h
  | cons x l ih => intro a b h; rw [steps_cons, steps_cons]; exact ih (suffix_app h _ _)
theorem same_steps {l : List S27} (hl : l ≠ []) {a b : ByteArray} (h : D b <:+ D a) (hb : 4096 ≤ b.size) : steps a l = steps b l := by
  cases l with
  | nil => exact absurd rfl hl
  | cons x l => rw [steps_cons, steps_cons, same_app h hb]
theorem FoldTail : consortlaw22_FoldTail.Pure := by
  rintro a b l ha hb ⟨_, hm, hw⟩
  obtain ⟨c, hc⟩ := few_is l hm l.length (l.length + 40) 0 0 (by omega) (by omega)
  refine ⟨l.length + 40, ?_⟩
  unfold consortlaw22_FoldTail.f
  rw [awake_is _ (by omega), Option.bind_some, if_pos rfl]
  have hj : consortlaw22_FoldTail.j0 (l.length + 40) a b l true = some true := by
    simp only [consortlaw22_FoldTail.j0]
    rw [if_pos trivial]
  by_cases h1 : (a.size : Int) > 10000
  · rw [if_pos h1]; exact hj
  · rw [if_neg h1]
    by_cases h2 : (b.size : Int) > 10000
    · rw [if_pos h2]; exact hj
    · rw [if_neg h2]
      have hc' : consortlaw22_few.f (l.length + 40) l = some c := hc
      rw [hc', Option.bind_some]
      cases c with
      | false => rw [if_neg (by simp)]; exact hj
      | true =>
        rw [if_pos rfl]
        by_cases h3 : l = []
        · subst h3
          exact hj
        · have h4 : ((l.length : Int) == 0) = false := by
            rw [beq_eq_false_iff_ne]
            intro h
            exact h3 (List.eq_nil_of_length_eq_zero (by omega))
          rw [h4]
          simp only [consortlaw22_FoldTail.j0]
          have hsz : (a ++ b).size = a.size + b.size := ByteArray.size_append
          rw [if_neg (by simp), if_pos (by omega), all_is _ l hm hw (by omega) _ (by omega), Option.bind_some, all_is _ l hm hw (by omega) _ (by omega), Option.bind_some]
          have hs : D b <:+ D (a ++ b) := ⟨D a, (D_append a b).symm⟩
          by_cases h5 : (b.size : Int) ≥ 4096
          · rw [if_pos h5, same_steps h3 hs (by omega), beq_self_eq_true]
          · rw [if_neg h5]
            have hss := suffix_steps (l := l) hs
            have hle := hss.length_le
            have hz1 : (steps (a ++ b) l).size ≤ 281474976702464 := steps_size (by omega)
            rw [D_size, D_size] at hle
            have ew : wrap64 (((steps (a ++ b) l).size : Int) - ((steps b l).size : Int)) = (((steps (a ++ b) l).size - (steps b l).size : Nat) : Int) := by rw [wrap_in (by omega) (by omega)]; omega
            rw [if_pos (by omega), ew, if_pos (by omega), if_pos (by omega), Int.toNat_natCast]
            have he : (steps (a ++ b) l).extract ((steps (a ++ b) l).size - (steps b l).size) (steps (a ++ b) l).size = steps b l := by
              apply D_inj
              rw [D_to_end]
              have := List.suffix_iff_eq_drop.1 hss
              rw [D_size, D_size] at this
              exact this.symm
            rw [he, beq_self_eq_true]
end Go.Proofs.Ytaejdmhgfkokdaa.Pure
