-- Written by our own program (wip/pr).
import Derived.Test.YtmedahgbmebegaaHandCp
import Derived.Test.YtmedahgbmebegaaOpnT
namespace Go.Proofs.Ytmedahgbmebegaa.P
open Go.RowKit
open Go.Proofs.YtmedahgbmebegaaOv
variable [TheW]
def consortlaw10_StreamCopies.Pure : Prop := ∀ (x0 : Int) (x1 : List (S37)) (x2 : Int), (fun a : Int => (Lit.int .i64 a).wf = true) x0 → (fun l : List (S37) => l.length * 72 ≤ 140737488351232 ∧ l.length ≤ maxLen ∧ ∀ a ∈ l, wf37 a) x1 → (fun a : Int => (Lit.int .i64 a).wf = true) x2 → consortlaw10_StreamCopies.f x0 x1 x2 = some true
end Go.Proofs.Ytmedahgbmebegaa.P
