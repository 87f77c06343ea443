/- A slice that is only handed on, opened. -/
import Derived.Test.YtgpldjckohlkfaaOpn
import Derived.Test.YtgpldjckohlkfaaOv
namespace Go.Proofs.YtgpldjckohlkfaaOpv
open Go.RowKit Go.Proofs.YtgpldjckohlkfaaW.PrintWords Go.ChangeShapes Go.WideShapes Go.Deep Go.Proofs.YtgpldjckohlkfaaOpn Go.Proofs.YtgpldjckohlkfaaOv
set_option linter.unusedVariables false
theorem opn_ov {H : Type} {enc : TypeId × Value → H} {P : Program} {w : World} {t e : TypeId} (ht : P.underlying t = some (.slice e)) (hc : P.cellsOf t = 1) : Opn enc P w kdOV t (fun _ => True) := by
  refine ⟨hc.symm, fun base spare held fuel cs x h hwt => ?_⟩
  rcases open_slice ht h with ⟨rfl, _⟩ | ⟨a, len, cap, m, n, D, Pl, rfl, hb, hl, hm, hmm, rfl, hx⟩
  · exact ⟨OV.nil, rfl, trivial⟩
  · have hlm : len ≤ m := by rw [hmm]; split <;> omega
    exact ⟨⟨some a, len, cap, by omega, by simp only [maxLen] at hm; omega⟩, rfl, trivial⟩
end Go.Proofs.YtgpldjckohlkfaaOpv
