-- Written by our own program (wip/pr).
import Derived.Test.YtaejdmhgfkokdaaPx0
import Derived.Test.YtaejdmhgfkokdaaOpn
namespace Go.Proofs.Ytaejdmhgfkokdaa.P
open Go.RowKit Go.Proofs.YtaejdmhgfkokdaaW.PrintWords Go.Proofs.YtaejdmhgfkokdaaOpn
set_option linter.unusedVariables false
def wf27 (x : S27) : Prop := (fun a : Int => (Lit.int .i64 a).wf = true) x.f0 ∧ (fun a : ByteArray => a.size ≤ 140737488351232) x.f1
theorem opn27 {H : Type} (enc : TypeId × Value → H) (w : World) : Opn enc Try.prog w k27 27 wf27 :=
  ⟨by kernel_rfl, fun base spare held fuel cs x h hw => by
    obtain ⟨xs, n, _, rfl, hlen, hxl, hf⟩ := DataW.trod_struct Try.underlying27 h
    have hlen2 : cs.length = 2 := hlen.trans (by kernel_rfl)
    obtain ⟨a0, k0_, f0⟩ := opn_field Try.underlying27 hxl hf hw (j := 0) (o := 0) (s := 1) (d := (Kd.int .i64)) (wf := (fun a : Int => (Lit.int .i64 a).wf = true)) rfl rfl rfl (opn_int Try.underlying3 (by kernel_rfl))
    obtain ⟨a1, k1_, f1⟩ := opn_field Try.underlying27 hxl hf hw (j := 1) (o := 1) (s := 1) (d := Kd.string) (wf := (fun a : ByteArray => a.size ≤ 140737488351232)) rfl rfl rfl (opn_string Try.underlying9 (by kernel_rfl))
    exact ⟨⟨a0, a1⟩, (pairK (o := 0) (s := 1) k0_ (lastK (o := 1) (s := 1) hlen2 k1_)), ⟨f0, f1⟩⟩⟩
end Go.Proofs.Ytaejdmhgfkokdaa.P
