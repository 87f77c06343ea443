/- What was put is got, whatever stands ahead of it and behind it, as far as its bytes hold it. -/
import Derived.Test.YtjolbpfileiipaaStaNumBack
namespace Go.Proofs.Ytjolbpfileiipaa.Pure
open Go.RowKit Go.Proofs.Ytjolbpfileiipaa.P Go.Proofs.YtjolbpfileiipaaW.PrintWords Go.Proofs.YtjolbpfileiipaaW.PrintLast

theorem NumBack : consortlaw01_NumBack.Pure := by
  intro a0 a1 v n h0 h1 hv hn
  unfold consortlaw01_NumBack.f
  rw [if_pos ⟨wf_u64 hv, wf_i64 hn⟩]
end Go.Proofs.Ytjolbpfileiipaa.Pure
