/- Whatever items come, the chunks and the document's list stay the same pairs in the same order, and tell the same state. -/
import Derived.Test.YtgpldjckohlkfaaStaChunkPlays
namespace Go.Proofs.Ytgpldjckohlkfaa.Pure
open Go.RowKit Go.Proofs.Ytgpldjckohlkfaa.P Go.Proofs.YtgpldjckohlkfaaW.PrintWords Go.Proofs.YtgpldjckohlkfaaW.PrintLast
open Go.Proofs.YtgpldjckohlkfaaOv
theorem ChunkPlays : consortlaw23_ChunkPlays.Pure := by
  intro x0 x1 h0 h1
  unfold consortlaw23_ChunkPlays.f
  rw [if_pos (show ∀ x ∈ x1, x.f1.size ≤ 140737488351232 from fun x hx => (h1.2.2 x hx).2.1)]
end Go.Proofs.Ytgpldjckohlkfaa.Pure
