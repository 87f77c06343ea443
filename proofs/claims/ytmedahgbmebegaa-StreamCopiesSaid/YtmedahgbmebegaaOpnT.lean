-- Written by our own program (wip/pr).
import Derived.Test.YtmedahgbmebegaaPx0
import Derived.Test.YtmedahgbmebegaaOpv
namespace Go.Proofs.Ytmedahgbmebegaa.P
open Go.RowKit Go.Proofs.YtmedahgbmebegaaW.PrintWords Go.Proofs.YtmedahgbmebegaaOpn
open Go.Proofs.YtmedahgbmebegaaOv
variable [TheW]
set_option linter.unusedVariables false
def wf37 (x : S37) : Prop := (fun a : Int => (Lit.int .i64 a).wf = true) x.f0 ∧ (fun a : Int => (Lit.int .u32 a).wf = true) x.f1 ∧ (fun a : Int => (Lit.int .u64 a).wf = true) x.f2 ∧ (fun a : Int => (Lit.int .i64 a).wf = true) x.f3 ∧ (fun _ : OV => True) x.f4 ∧ (fun a : ByteArray => a.size ≤ 140737488351232) x.f5
theorem opn37 {H : Type} (enc : TypeId × Value → H) (w : World) (hw_ : w = TheW.w0) : Opn enc Try.prog w k37 37 wf37 :=
  ⟨by kernel_rfl, fun base spare held fuel cs x h hw => by
    obtain ⟨xs, n, _, rfl, hlen, hxl, hf⟩ := DataW.trod_struct Try.underlying37 h
    have hlen2 : cs.length = 6 := hlen.trans (by kernel_rfl)
    obtain ⟨a0, k0_, f0⟩ := opn_field Try.underlying37 hxl hf hw (j := 0) (o := 0) (s := 1) (d := (Kd.int .i64)) (wf := (fun a : Int => (Lit.int .i64 a).wf = true)) rfl rfl rfl (opn_int Try.underlying3 (by kernel_rfl))
    obtain ⟨a1, k1_, f1⟩ := opn_field Try.underlying37 hxl hf hw (j := 1) (o := 1) (s := 1) (d := (Kd.int .u32)) (wf := (fun a : Int => (Lit.int .u32 a).wf = true)) rfl rfl rfl (opn_int Try.underlying23 (by kernel_rfl))
    obtain ⟨a2, k2_, f2⟩ := opn_field Try.underlying37 hxl hf hw (j := 2) (o := 2) (s := 1) (d := (Kd.int .u64)) (wf := (fun a : Int => (Lit.int .u64 a).wf = true)) rfl rfl rfl (opn_int Try.underlying34 (by kernel_rfl))
    obtain ⟨a3, k3_, f3⟩ := opn_field Try.underlying37 hxl hf hw (j := 3) (o := 3) (s := 1) (d := (Kd.int .i64)) (wf := (fun a : Int => (Lit.int .i64 a).wf = true)) rfl rfl rfl (opn_int Try.underlying3 (by kernel_rfl))
    obtain ⟨a4, k4_, f4⟩ := opn_field Try.underlying37 hxl hf hw (j := 4) (o := 4) (s := 1) (d := kdOV) (wf := (fun _ : OV => True)) rfl rfl rfl (Go.Proofs.YtmedahgbmebegaaOpv.opn_ov Try.underlying35 Try.underlying23 (by kernel_rfl) (by kernel_rfl) hw_)
    obtain ⟨a5, k5_, f5⟩ := opn_field Try.underlying37 hxl hf hw (j := 5) (o := 5) (s := 1) (d := Kd.string) (wf := (fun a : ByteArray => a.size ≤ 140737488351232)) rfl rfl rfl (opn_string Try.underlying9 (by kernel_rfl))
    exact ⟨⟨a0, a1, a2, a3, a4, a5⟩, (pairK (o := 0) (s := 1) k0_ (pairK (o := 1) (s := 1) k1_ (pairK (o := 2) (s := 1) k2_ (pairK (o := 3) (s := 1) k3_ (pairK (o := 4) (s := 1) k4_ (lastK (o := 5) (s := 1) hlen2 k5_)))))), ⟨f0, f1, f2, f3, f4, f5⟩⟩⟩
end Go.Proofs.Ytmedahgbmebegaa.P
