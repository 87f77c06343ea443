-- Written by our own program (wip/pr).
import Derived.Test.YtaejdmhgfkokdaaPx2
import Derived.Test.YtaejdmhgfkokdaaOpnT
namespace Go.Proofs.Ytaejdmhgfkokdaa.P
open Go.RowKit
def consortlaw22_FoldApplies.Pure : Prop := ∀ (x0 : ByteArray) (x1 : List (S27)) (x2 : Int), (fun a : ByteArray => a.size ≤ 140737488351232) x0 → (fun l : List (S27) => l.length * 24 ≤ 140737488351232 ∧ l.length ≤ maxLen ∧ ∀ a ∈ l, wf27 a) x1 → (fun a : Int => (Lit.int .i64 a).wf = true) x2 → ∃ k, consortlaw22_FoldApplies.f k x0 x1 x2 = some true
end Go.Proofs.Ytaejdmhgfkokdaa.P
