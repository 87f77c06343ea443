-- Written by our own program (wip/pr).
import Derived.Test.YtaejdmhgfkokdaaPx3
import Derived.Test.YtaejdmhgfkokdaaOpnT
namespace Go.Proofs.Ytaejdmhgfkokdaa.P
open Go.RowKit
def consortlaw22_FoldLast.Pure : Prop := ∀ (x0 : ByteArray) (x1 : S27), (fun a : ByteArray => a.size ≤ 140737488351232) x0 → wf27 x1 → ∃ k, consortlaw22_FoldLast.f k x0 x1.f0 x1.f1 = some true
end Go.Proofs.Ytaejdmhgfkokdaa.P
