import Derived.Test.YtlkemknhmfjdpaaStaLogBack
namespace Go.Proofs.Ytlkemknhmfjdpaa.Pure
open Go.RowKit Go.Proofs.Ytlkemknhmfjdpaa.P Go.Proofs.YtlkemknhmfjdpaaW.PrintWords Go.Proofs.YtlkemknhmfjdpaaW.PrintLast

theorem wf_u32b {a : Int} (h : (Lit.int .u32 a).wf = true) : 0 ≤ a ∧ a ≤ 4294967295 := by
  simp only [Lit.wf, Bool.and_eq_true, decide_eq_true_eq] at h
  exact h
theorem wf_u64b {a : Int} (h : (Lit.int .u64 a).wf = true) : 0 ≤ a ∧ a < 18446744073709551616 := by
  have := wf_u64 h
  omega
theorem wf27b {x : S27} (h : wf27 x) : sW x := by
  obtain ⟨h0, ⟨h1, _⟩, h2⟩ := h
  exact ⟨wf_u64b h0, wf_u64b h1, wf_u64b h2⟩
theorem LogBack : consortlaw19_LogBack.Pure := by
  intro x0 x1 x2 h0 h1 h2
  obtain ⟨i0, i1, i2, i3⟩ := h0
  obtain ⟨_, _, j2, j3, _, _, ⟨j6, j6'⟩, j7, j8, _, _⟩ := h1
  rw [consortlaw19_LogBack.f, if_pos]
  exact ⟨wf_u64b i0, wf_u32b i1, wf27b i2, fun x hx => wf27b (i3.2.2 x hx), wf_u32b j2, wf_u64b j3, wf27b j6, fun x hx => wf27b (j6'.2.2 x hx), wf27b j7, wf_u64b j8⟩
end Go.Proofs.Ytlkemknhmfjdpaa.Pure
