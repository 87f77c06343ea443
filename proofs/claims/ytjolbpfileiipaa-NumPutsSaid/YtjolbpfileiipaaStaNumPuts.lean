-- Written by our own program (wip/pr).
import Derived.Test.YtjolbpfileiipaaHandNP
import Derived.Test.YtjolbpfileiipaaOpnT
namespace Go.Proofs.Ytjolbpfileiipaa.P
open Go.RowKit
def consortlaw01_NumPuts.Pure : Prop := ∀ (x0 : List Int) (x1 : Int) (x2 : Int), (fun l : List Int => l.length * 1 ≤ 140737488351232 ∧ l.length ≤ maxLen ∧ ∀ a ∈ l, (fun a : Int => (Lit.int .u8 a).wf = true) a) x0 → (fun a : Int => (Lit.int .u64 a).wf = true) x1 → (fun a : Int => (Lit.int .i64 a).wf = true) x2 → consortlaw01_NumPuts.f x0 x1 x2 = some true
end Go.Proofs.Ytjolbpfileiipaa.P
