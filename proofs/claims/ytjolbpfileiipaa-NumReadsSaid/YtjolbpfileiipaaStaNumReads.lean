-- Written by our own program (wip/pr).
import Derived.Test.YtjolbpfileiipaaPx3
import Derived.Test.YtjolbpfileiipaaOpnT
namespace Go.Proofs.Ytjolbpfileiipaa.P
open Go.RowKit
def consortlaw01_NumReads.Pure : Prop := ∀ (x0 : ByteArray) (x1 : List (S39)), (fun a : ByteArray => a.size ≤ 140737488351232) x0 → (fun l : List (S39) => l.length * 16 ≤ 140737488351232 ∧ l.length ≤ maxLen ∧ ∀ a ∈ l, wf39 a) x1 → ∃ k, consortlaw01_NumReads.f k x0 x1 = some true
end Go.Proofs.Ytjolbpfileiipaa.P
