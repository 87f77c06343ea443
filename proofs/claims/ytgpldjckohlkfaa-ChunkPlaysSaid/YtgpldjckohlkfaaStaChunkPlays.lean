-- Written by our own program (wip/pr).
import Derived.Test.YtgpldjckohlkfaaHandPl
import Derived.Test.YtgpldjckohlkfaaOpnT
namespace Go.Proofs.Ytgpldjckohlkfaa.P
open Go.RowKit
open Go.Proofs.YtgpldjckohlkfaaOv
def consortlaw23_ChunkPlays.Pure : Prop := ∀ (x0 : Int) (x1 : List (S42)), (fun a : Int => (Lit.int .u64 a).wf = true) x0 → (fun l : List (S42) => l.length * 160 ≤ 140737488351232 ∧ l.length ≤ maxLen ∧ ∀ a ∈ l, wf42 a) x1 → consortlaw23_ChunkPlays.f x0 x1 = some true
end Go.Proofs.Ytgpldjckohlkfaa.P
