-- Written by our own program (wip/pr).
import Derived.Test.YtgpldjckohlkfaaHandBk
import Derived.Test.YtgpldjckohlkfaaOpnT
namespace Go.Proofs.Ytgpldjckohlkfaa.P
open Go.RowKit
open Go.Proofs.YtgpldjckohlkfaaOv
def consortlaw23_ChunkBack.Pure : Prop := ∀ (x0 : Int) (x1 : ByteArray) (x2 : List Int) (x3 : S42), (fun a : Int => (Lit.int .u64 a).wf = true) x0 → (fun a : ByteArray => a.size ≤ 140737488351232) x1 → (fun l : List Int => l.length * 2 ≤ 140737488351232 ∧ l.length ≤ maxLen ∧ ∀ a ∈ l, (fun a : Int => (Lit.int .u16 a).wf = true) a) x2 → wf42 x3 → consortlaw23_ChunkBack.f x0 x1 x2 x3.f0 x3.f1 x3.f2 x3.f3 x3.f4 x3.f5 x3.f6.f0.f0 x3.f6.f0.f1.f0 x3.f6.f0.f1.f1 x3.f6.f0.f2 x3.f6.f1 x3.f7.f0 x3.f7.f1.f0 x3.f7.f1.f1 x3.f7.f2 x3.f8 x3.f9 x3.f10 = some true
end Go.Proofs.Ytgpldjckohlkfaa.P
