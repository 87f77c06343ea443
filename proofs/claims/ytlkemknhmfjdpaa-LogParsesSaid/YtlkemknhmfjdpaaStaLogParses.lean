-- Written by our own program (wip/pr).
import Derived.Test.YtlkemknhmfjdpaaHandLp
import Derived.Test.YtlkemknhmfjdpaaOpnT
namespace Go.Proofs.Ytlkemknhmfjdpaa.P
open Go.RowKit
def consortlaw19_LogParses.Pure : Prop := ∀ (x0 : ByteArray), (fun a : ByteArray => a.size ≤ 140737488351232) x0 → consortlaw19_LogParses.f x0 = some true
end Go.Proofs.Ytlkemknhmfjdpaa.P
