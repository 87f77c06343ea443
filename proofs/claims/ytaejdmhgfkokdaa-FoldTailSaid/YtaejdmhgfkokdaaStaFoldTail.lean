-- Written by our own program (wip/pr).
import Derived.Test.YtaejdmhgfkokdaaPx3
import Derived.Test.YtaejdmhgfkokdaaOpnT
namespace Go.Proofs.Ytaejdmhgfkokdaa.P
open Go.RowKit
def consortlaw22_FoldTail.Pure : Prop := ∀ (x0 : ByteArray) (x1 : ByteArray) (x2 : List (S27)), (fun a : ByteArray => a.size ≤ 140737488351232) x0 → (fun a : ByteArray => a.size ≤ 140737488351232) x1 → (fun l : List (S27) => l.length * 24 ≤ 140737488351232 ∧ l.length ≤ maxLen ∧ ∀ a ∈ l, wf27 a) x2 → ∃ k, consortlaw22_FoldTail.f k x0 x1 x2 = some true
end Go.Proofs.Ytaejdmhgfkokdaa.P
