/- A state's items, in whatever order they come, and as often as one likes, come to the state, just when the last one that lacks comes; other items between them do nothing. -/
import Derived.Test.YtgpldjckohlkfaaStaChunkBack
namespace Go.Proofs.Ytgpldjckohlkfaa.Pure
open Go.RowKit Go.Proofs.Ytgpldjckohlkfaa.P Go.Proofs.YtgpldjckohlkfaaW.PrintWords Go.Proofs.YtgpldjckohlkfaaW.PrintLast
open Go.Proofs.YtgpldjckohlkfaaOv
theorem ChunkBack : consortlaw23_ChunkBack.Pure := by
  intro x0 x1 x2 x3 h0 h1 h2 h3
  unfold consortlaw23_ChunkBack.f
  rw [if_pos (show okT x2 from fun x hx => by
    have h := h2.2.2 x hx
    simp only [Lit.wf, Bool.and_eq_true, decide_eq_true_eq] at h
    exact h)]
end Go.Proofs.Ytgpldjckohlkfaa.Pure
