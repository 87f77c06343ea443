/- A slice of whole numbers that came in by the fixed world, opened. -/
import Derived.Test.YtmedahgbmebegaaOpn
import Derived.Test.YtmedahgbmebegaaOv
namespace Go.Proofs.YtmedahgbmebegaaOpv
open Go.RowKit Go.Proofs.YtmedahgbmebegaaW.PrintWords Go.ChangeShapes Go.WideShapes Go.Deep Go.Proofs.YtmedahgbmebegaaOpn Go.Proofs.YtmedahgbmebegaaOv
set_option linter.unusedVariables false
theorem opn_ov [TheW] {H : Type} {enc : TypeId × Value → H} {P : Program} {w : World} {t e : TypeId} (ht : P.underlying t = some (.slice e)) (he : P.underlying e = some (.int .u32)) (hc : P.cellsOf t = 1) (hce : P.cellsOf e = 1)
    (hw : w = TheW.w0) : Opn enc P w kdOV t (fun _ => True) := by
  subst hw
  refine ⟨hc.symm, fun base spare held fuel cs x h hwt => ?_⟩
  obtain ⟨xs, ⟨A, c, hcs, hle, hC⟩, _⟩ := (opn_slice ht hc rfl (opn_int he hce)).2 base spare held fuel cs x h hwt
  exact ⟨⟨A, xs.length, c, xs, hle, hC.2.1, hC⟩, hcs, trivial⟩
end Go.Proofs.YtmedahgbmebegaaOpv
