-- Written by our own program (wip/pr).
import Derived.Test.YtjolbpfileiipaaHandNB
import Derived.Test.YtjolbpfileiipaaOpnT
namespace Go.Proofs.Ytjolbpfileiipaa.P
open Go.RowKit
def consortlaw01_NumBack.Pure : Prop := ∀ (x0 : ByteArray) (x1 : ByteArray) (x2 : Int) (x3 : Int), (fun a : ByteArray => a.size ≤ 140737488351232) x0 → (fun a : ByteArray => a.size ≤ 140737488351232) x1 → (fun a : Int => (Lit.int .u64 a).wf = true) x2 → (fun a : Int => (Lit.int .i64 a).wf = true) x3 → consortlaw01_NumBack.f x0 x1 x2 x3 = some true
end Go.Proofs.Ytjolbpfileiipaa.P
