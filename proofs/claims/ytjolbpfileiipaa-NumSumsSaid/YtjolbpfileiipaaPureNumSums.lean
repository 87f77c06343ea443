/- Sums stay: the order of numbers plays no part, nothing grows less, and nothing beyond the greatest one. -/
import Derived.Test.YtjolbpfileiipaaPx2
import Derived.Test.YtjolbpfileiipaaNumLaw
namespace Go.Proofs.Ytjolbpfileiipaa.Pure
open Go.RowKit Go.Proofs.Ytjolbpfileiipaa.P Go.Proofs.YtjolbpfileiipaaW.PrintWords Go.Proofs.YtjolbpfileiipaaW.PrintLast Go.Proofs.YtjolbpfileiipaaW.PrintMore

theorem NumSums : consortlaw01_NumSums.Pure := by
  intro a b c ha hb hc
  replace ha := wf_u64 ha
  replace hb := wf_u64 hb
  replace hc := wf_u64 hc
  refine ⟨20, ?_⟩
  unfold consortlaw01_NumSums.f
  have h1 := sumR_in ha.1 hb.1
  have h2 := sumR_in hb.1 hc.1
  rw [awake_is _ (by omega), Option.bind_some, if_pos rfl, sum_is ha hb, Option.bind_some, sum_is h1 hc, Option.bind_some, sum_is hb hc, Option.bind_some, sum_is ha h2, Option.bind_some,
    if_pos (by unfold sumR; omega), Option.bind_some, sum_is hb ha, Option.bind_some, if_pos (by unfold sumR; omega), sum_is ha (by omega), Option.bind_some, if_pos (by unfold sumR; omega), Option.bind_some,
    if_pos (by unfold sumR; omega), Option.bind_some, decide_eq_true (by unfold sumR; omega)]
end Go.Proofs.Ytjolbpfileiipaa.Pure
