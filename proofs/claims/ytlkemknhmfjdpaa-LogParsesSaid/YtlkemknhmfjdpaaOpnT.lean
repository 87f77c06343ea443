-- Written by our own program (wip/pr).
import Derived.Test.YtlkemknhmfjdpaaPx0
import Derived.Test.YtlkemknhmfjdpaaOpn
namespace Go.Proofs.Ytlkemknhmfjdpaa.P
open Go.RowKit Go.Proofs.YtlkemknhmfjdpaaW.PrintWords Go.Proofs.YtlkemknhmfjdpaaOpn
set_option linter.unusedVariables false
end Go.Proofs.Ytlkemknhmfjdpaa.P
