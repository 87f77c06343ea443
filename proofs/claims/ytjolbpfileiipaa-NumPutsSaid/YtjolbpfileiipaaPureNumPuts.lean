/- Any number of any size is put as just the document's bytes, behind what is there, in new memory. -/
import Derived.Test.YtjolbpfileiipaaStaNumPuts
namespace Go.Proofs.Ytjolbpfileiipaa.Pure
open Go.RowKit Go.Proofs.Ytjolbpfileiipaa.P Go.Proofs.YtjolbpfileiipaaW.PrintWords Go.Proofs.YtjolbpfileiipaaW.PrintLast

theorem NumPuts : consortlaw01_NumPuts.Pure := by
  intro l v n hl hv hn
  unfold consortlaw01_NumPuts.f
  rw [if_pos (wf_u64 hv)]
end Go.Proofs.Ytjolbpfileiipaa.Pure
