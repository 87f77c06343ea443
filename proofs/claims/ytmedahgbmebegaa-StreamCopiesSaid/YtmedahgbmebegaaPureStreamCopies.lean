/- A copy goes its own way, and goes on as the stream does. -/
import Derived.Test.YtmedahgbmebegaaStaStreamCopies
import Derived.Test.YtmedahgbmebegaaStreamLaw2
namespace Go.Proofs.Ytmedahgbmebegaa.Pure
open Go.RowKit Go.Proofs.Ytmedahgbmebegaa.P Go.Proofs.YtmedahgbmebegaaW.PrintWords Go.Proofs.YtmedahgbmebegaaW.PrintLast Go.Proofs.YtmedahgbmebegaaIMap
open Go.Proofs.YtmedahgbmebegaaOv
set_option linter.unusedVariables false
set_option linter.unusedSectionVars false
variable [TheW]
theorem StreamCopies : consortlaw10_StreamCopies.Pure := by
  intro x0 x1 x2 h0 h1 h2
  unfold consortlaw10_StreamCopies.f
  rw [if_pos (show okMs x1 from fun x hx => seq_in (h1.2.2 x hx))]
end Go.Proofs.Ytmedahgbmebegaa.Pure
