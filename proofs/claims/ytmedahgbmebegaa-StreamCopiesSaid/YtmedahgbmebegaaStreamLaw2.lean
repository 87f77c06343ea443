/- Plain laws of what the statements of the stream read: few messages, the same message, the numbers' bounds. -/
import Derived.Test.YtmedahgbmebegaaPx1
import Derived.Test.YtmedahgbmebegaaOpnT
import Derived.Test.YtmedahgbmebegaaStreamLaw
namespace Go.Proofs.Ytmedahgbmebegaa.P
open Go.Proofs.YtmedahgbmebegaaOv Go.RowKit Go.Proofs.YtmedahgbmebegaaW.PrintWords Go.Proofs.YtmedahgbmebegaaIMap
set_option linter.unusedVariables false
set_option linter.unusedSimpArgs false
set_option linter.unusedSectionVars false
variable [TheW]
theorem w64_ {x : Int} (h : 0 ≤ x ∧ x ≤ 9223372036854775807) : wrap64 x = x := by unfold wrap64; omega
theorem stream_awake_is : consortlaw10_awake.f = some true := by kernel_rfl
theorem seq_in {x : S37} (h : wf37 x) : 0 ≤ x.f1 ∧ x.f1 ≤ 4294967295 := by
  have := h.2.1
  simp only [Lit.wf, Bool.and_eq_true, decide_eq_true_eq] at this
  exact this
theorem rd_is {l : List S37} {i : Nat} (h : i < l.length) : rd_T37 l (i : Int) = l[i] := by
  unfold rd_T37
  simp only [Int.toNat_natCast, List.getD_eq_getElem?_getD, List.getElem?_eq_getElem h, Option.getD_some]
theorem few_l0 (x0 : List S37) : ∀ d k (i : Nat) (x3 : Int), i + d = 301 → d < k → ∃ b, consortlaw03_Few.l0 k x0 x3 i = some b ∧ (b = true → x0.length ≤ 301)
  | _, 0, _, _, _, h => by omega
  | 0, k + 1, i, x3, hi, hk => by
    rw [consortlaw03_Few.l0]
    split
    · rw [if_pos (by omega), if_pos (by omega)]
      exact ⟨false, rfl, by simp⟩
    · exact ⟨true, rfl, fun _ => by omega⟩
  | d + 1, k + 1, i, x3, hi, hk => by
    rw [consortlaw03_Few.l0]
    split
    · rw [if_pos (by omega)]
      split
      · exact ⟨false, rfl, by simp⟩
      · split
        · exact ⟨false, rfl, by simp⟩
        · have e : wrap64 ((i : Int) + 1) = ((i + 1 : Nat) : Int) := by rw [w64_ (by omega)]; omega
          rw [e]
          exact few_l0 x0 d k (i + 1) _ (by omega) (by omega)
    · exact ⟨true, rfl, fun _ => by omega⟩
theorem few_is (x0 : List S37) (k : Nat) (hk : 302 < k) : ∃ b, consortlaw03_Few.f k x0 = some b ∧ (b = true → x0.length ≤ 301) := few_l0 x0 301 k 0 0 (by omega) (by omega)
/-- The longest row of numbers among some messages. -/
def deps : List S37 → Nat
  | [] => 0
  | x :: l => x.f4.l.length + deps l
theorem deps_le : ∀ {l : List S37} {x : S37}, x ∈ l → x.f4.l.length ≤ deps l
  | y :: l, x, h => by
    rcases List.mem_cons.1 h with rfl | h
    · simp [deps]
    · have := deps_le h
      simp only [deps]
      omega
theorem ov_len (o : OV) : o.l.length ≤ 9223372036854775807 := by
  have h1 := o.hr.1
  have h2 := o.hm
  omega
theorem same_l0 (a0 a1 a2 a3 b0 b1 b2 b3 : Int) (s t : ByteArray) (l m : List Int) (hlm : l.length = m.length) (hl : l.length ≤ 9223372036854775807) : ∀ d k (i : Nat), i + d = l.length → d < k →
    ∃ b, PS.consortref03_Same.l0 k i a0 a1 a2 a3 l s b0 b1 b2 b3 m t = some b ∧ (l = m → b = true)
  | _, 0, _, _, h => by omega
  | 0, k + 1, i, hi, hk => by
    rw [PS.consortref03_Same.l0]
    rw [if_neg (by omega)]
    exact ⟨true, rfl, fun _ => rfl⟩
  | d + 1, k + 1, i, hi, hk => by
    rw [PS.consortref03_Same.l0]
    have e : wrap64 ((i : Int) + 1) = ((i + 1 : Nat) : Int) := by rw [w64_ (by omega)]; omega
    rw [if_pos (by omega), if_pos (by omega), if_pos (by omega), e]
    split
    · exact same_l0 a0 a1 a2 a3 b0 b1 b2 b3 s t l m hlm hl d k (i + 1) (by omega) (by omega)
    · rename_i hne
      exact ⟨false, rfl, fun he => absurd (by rw [he]) hne⟩
theorem same_is (x y : S37) (k : Nat) (hk : x.f4.l.length + 1 < k) : ∃ b, ref03_Same.f k x.f0 x.f1 x.f2 x.f3 x.f4 x.f5 y.f0 y.f1 y.f2 y.f3 y.f4 y.f5 = some b ∧ (x = y → b = true) := by
  obtain ⟨k, rfl⟩ : ∃ k', k = k' + 1 := ⟨k - 1, by omega⟩
  have hj : ∀ c : Bool, (c = false → x.f4.l.length = y.f4.l.length) → (x = y → c = false) → ∃ b, PS.consortref03_Same.j0 (k + 1) c x.f0 x.f1 x.f2 x.f3 x.f4.l x.f5 y.f0 y.f1 y.f2 y.f3 y.f4.l y.f5 = some b ∧ (x = y → b = true) := by
    intro c hc hc2
    rw [PS.consortref03_Same.j0]
    cases c with
    | true => exact ⟨false, rfl, fun e => by have := hc2 e; simp at this⟩
    | false =>
      rw [if_neg (by simp)]
      obtain ⟨b, h1, h2⟩ := same_l0 x.f0 x.f1 x.f2 x.f3 y.f0 y.f1 y.f2 y.f3 x.f5 y.f5 x.f4.l y.f4.l (hc rfl) (ov_len _) x.f4.l.length k 0 (by omega) (by omega)
      exact ⟨b, h1, fun e => h2 (by rw [e])⟩
  unfold ref03_Same.f PS.consortref03_Same.f
  repeat' split
  · refine hj _ (fun h => ?_) (fun e => by simp [e])
    have : (x.f4.l.length : Int) = y.f4.l.length := by simpa using h
    omega
  all_goals
    refine hj true (fun h => by cases h) (fun e => ?_)
    subst e
    contradiction
end Go.Proofs.Ytmedahgbmebegaa.P
