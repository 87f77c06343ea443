import Derived.Test.YtlkemknhmfjdpaaStaLogSizes
namespace Go.Proofs.Ytlkemknhmfjdpaa.Pure
open Go.RowKit Go.Proofs.Ytlkemknhmfjdpaa.P Go.Proofs.YtlkemknhmfjdpaaW.PrintWords Go.Proofs.YtlkemknhmfjdpaaW.PrintLast

theorem wf_u32 {a : Int} (h : (Lit.int .u32 a).wf = true) : 0 ≤ a ∧ a ≤ 4294967295 := by
  simp only [Lit.wf, Bool.and_eq_true, decide_eq_true_eq] at h
  exact h
theorem LogSizes : consortlaw19_LogSizes.Pure := by
  intro x0 x1 h0 h1
  obtain ⟨_, i0, _⟩ := h0
  obtain ⟨_, _, i1, _⟩ := h1
  rw [consortlaw19_LogSizes.f, if_pos ⟨wf_u32 i0, wf_u32 i1⟩]
end Go.Proofs.Ytlkemknhmfjdpaa.Pure
