-- Written by our own program (wip/pr).
import Derived.Test.YtjolbpfileiipaaPx0
import Derived.Test.YtjolbpfileiipaaOpn
namespace Go.Proofs.Ytjolbpfileiipaa.P
open Go.RowKit Go.Proofs.YtjolbpfileiipaaW.PrintWords Go.Proofs.YtjolbpfileiipaaOpn
set_option linter.unusedVariables false
def wf39 (x : S39) : Prop := (fun _ : Bool => True) x.f0 ∧ (fun a : Int => (Lit.int .i64 a).wf = true) x.f1
theorem opn39 {H : Type} (enc : TypeId × Value → H) (w : World) : Opn enc Try.prog w k39 39 wf39 :=
  ⟨by kernel_rfl, fun base spare held fuel cs x h hw => by
    obtain ⟨xs, n, _, rfl, hlen, hxl, hf⟩ := DataW.trod_struct Try.underlying39 h
    have hlen2 : cs.length = 2 := hlen.trans (by kernel_rfl)
    obtain ⟨a0, k0_, f0⟩ := opn_field Try.underlying39 hxl hf hw (j := 0) (o := 0) (s := 1) (d := Kd.bool) (wf := (fun _ : Bool => True)) rfl rfl rfl (opn_bool Try.underlying4 (by kernel_rfl))
    obtain ⟨a1, k1_, f1⟩ := opn_field Try.underlying39 hxl hf hw (j := 1) (o := 1) (s := 1) (d := (Kd.int .i64)) (wf := (fun a : Int => (Lit.int .i64 a).wf = true)) rfl rfl rfl (opn_int Try.underlying3 (by kernel_rfl))
    exact ⟨⟨a0, a1⟩, (pairK (o := 0) (s := 1) k0_ (lastK (o := 1) (s := 1) hlen2 k1_)), ⟨f0, f1⟩⟩⟩
end Go.Proofs.Ytjolbpfileiipaa.P
