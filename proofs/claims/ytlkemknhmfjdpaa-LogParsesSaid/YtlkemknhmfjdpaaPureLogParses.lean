import Derived.Test.YtlkemknhmfjdpaaStaLogParses
namespace Go.Proofs.Ytlkemknhmfjdpaa.Pure
open Go.RowKit Go.Proofs.Ytlkemknhmfjdpaa.P Go.Proofs.YtlkemknhmfjdpaaW.PrintWords Go.Proofs.YtlkemknhmfjdpaaW.PrintLast

theorem LogParses : consortlaw19_LogParses.Pure := by
  intro x0 _
  rfl
end Go.Proofs.Ytlkemknhmfjdpaa.Pure
