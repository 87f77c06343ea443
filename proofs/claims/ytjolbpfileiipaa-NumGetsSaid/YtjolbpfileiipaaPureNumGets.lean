/- At any place of any bytes stands just the document's number, or none; any two numbers have just its sum. -/
import Derived.Test.YtjolbpfileiipaaPx2
import Derived.Test.YtjolbpfileiipaaNumLaw
namespace Go.Proofs.Ytjolbpfileiipaa.Pure
open Go.RowKit Go.Proofs.Ytjolbpfileiipaa.P Go.Proofs.YtjolbpfileiipaaW.PrintWords Go.Proofs.YtjolbpfileiipaaW.PrintLast Go.Proofs.YtjolbpfileiipaaW.PrintMore

theorem NumGets : consortlaw01_NumGets.Pure := by
  intro s at_ n a b hs ha hn ha2 hb2
  refine ⟨20, ?_⟩
  unfold consortlaw01_NumGets.f
  rw [awake_is _ (by omega), Option.bind_some, if_pos rfl]
  by_cases h : (s.size : Int) > 20000
  · rw [if_pos h]
  · rw [if_neg h, get_is s at_ n hs (wf_i64 ha) (wf_i64 hn), Option.bind_some, refget_is _ (by omega) s at_ n hs, Option.bind_some, if_pos rfl, beq_self_eq_true, if_pos rfl, sum_is (wf_u64 ha2) (wf_u64 hb2), Option.bind_some, refsum_is (wf_u64 ha2) (wf_u64 hb2), Option.bind_some, beq_self_eq_true]
end Go.Proofs.Ytjolbpfileiipaa.Pure
