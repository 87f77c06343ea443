-- Written by our own program (wip/pr).
import Derived.Test.YtlkemknhmfjdpaaHandM1
import Derived.Test.YtlkemknhmfjdpaaOpnT
namespace Go.Proofs.Ytlkemknhmfjdpaa.P
open Go.RowKit
def consortlaw19_LogBack.Pure : Prop := ∀ (x0 : S32) (x1 : S34) (x2 : ByteArray), wf32 x0 → wf34 x1 → (fun a : ByteArray => a.size ≤ 140737488351232) x2 → consortlaw19_LogBack.f x0.f0 x0.f1 x0.f2.f0.f0 x0.f2.f0.f1.f0 x0.f2.f0.f1.f1 x0.f2.f0.f2 x0.f2.f1 x1.f0 x1.f1 x1.f2 x1.f3 x1.f4 x1.f5 x1.f6.f0.f0 x1.f6.f0.f1.f0 x1.f6.f0.f1.f1 x1.f6.f0.f2 x1.f6.f1 x1.f7.f0 x1.f7.f1.f0 x1.f7.f1.f1 x1.f7.f2 x1.f8 x1.f9 x1.f10 x2 = some true
end Go.Proofs.Ytlkemknhmfjdpaa.P
