-- Written by our own program (wip/pr).
import Derived.Test.YtgpldjckohlkfaaPx0
import Derived.Test.YtgpldjckohlkfaaOpv
namespace Go.Proofs.Ytgpldjckohlkfaa.P
open Go.RowKit Go.Proofs.YtgpldjckohlkfaaW.PrintWords Go.Proofs.YtgpldjckohlkfaaOpn
open Go.Proofs.YtgpldjckohlkfaaOv
set_option linter.unusedVariables false
def wf31 (x : S31) : Prop := (fun a : Int => (Lit.int .u64 a).wf = true) x.f0 ∧ (fun a : Int => (Lit.int .i64 a).wf = true) x.f1
theorem opn31 {H : Type} (enc : TypeId × Value → H) (w : World) : Opn enc Try.prog w k31 31 wf31 :=
  ⟨by kernel_rfl, fun base spare held fuel cs x h hw => by
    obtain ⟨xs, n, _, rfl, hlen, hxl, hf⟩ := DataW.trod_struct Try.underlying31 h
    have hlen2 : cs.length = 2 := hlen.trans (by kernel_rfl)
    obtain ⟨a0, k0_, f0⟩ := opn_field Try.underlying31 hxl hf hw (j := 0) (o := 0) (s := 1) (d := (Kd.int .u64)) (wf := (fun a : Int => (Lit.int .u64 a).wf = true)) rfl rfl rfl (opn_int Try.underlying22 (by kernel_rfl))
    obtain ⟨a1, k1_, f1⟩ := opn_field Try.underlying31 hxl hf hw (j := 1) (o := 1) (s := 1) (d := (Kd.int .i64)) (wf := (fun a : Int => (Lit.int .i64 a).wf = true)) rfl rfl rfl (opn_int Try.underlying3 (by kernel_rfl))
    exact ⟨⟨a0, a1⟩, (pairK (o := 0) (s := 1) k0_ (lastK (o := 1) (s := 1) hlen2 k1_)), ⟨f0, f1⟩⟩⟩
def wf33 (x : S33) : Prop := (fun a : Int => (Lit.int .u64 a).wf = true) x.f0 ∧ wf31 x.f1 ∧ (fun a : Int => (Lit.int .u64 a).wf = true) x.f2
theorem opn33 {H : Type} (enc : TypeId × Value → H) (w : World) : Opn enc Try.prog w k33 33 wf33 :=
  ⟨by kernel_rfl, fun base spare held fuel cs x h hw => by
    obtain ⟨xs, n, _, rfl, hlen, hxl, hf⟩ := DataW.trod_struct Try.underlying33 h
    have hlen2 : cs.length = 4 := hlen.trans (by kernel_rfl)
    obtain ⟨a0, k0_, f0⟩ := opn_field Try.underlying33 hxl hf hw (j := 0) (o := 0) (s := 1) (d := (Kd.int .u64)) (wf := (fun a : Int => (Lit.int .u64 a).wf = true)) rfl rfl rfl (opn_int Try.underlying22 (by kernel_rfl))
    obtain ⟨a1, k1_, f1⟩ := opn_field Try.underlying33 hxl hf hw (j := 1) (o := 1) (s := 2) (d := k31) (wf := wf31) rfl rfl rfl (opn31 enc w)
    obtain ⟨a2, k2_, f2⟩ := opn_field Try.underlying33 hxl hf hw (j := 2) (o := 3) (s := 1) (d := (Kd.int .u64)) (wf := (fun a : Int => (Lit.int .u64 a).wf = true)) rfl rfl rfl (opn_int Try.underlying22 (by kernel_rfl))
    exact ⟨⟨a0, a1, a2⟩, (pairK (o := 0) (s := 1) k0_ (pairK (o := 1) (s := 2) k1_ (lastK (o := 3) (s := 1) hlen2 k2_))), ⟨f0, f1, f2⟩⟩⟩
def wf40 (x : S40) : Prop := wf33 x.f0 ∧ (fun _ : OV => True) x.f1
theorem opn40 {H : Type} (enc : TypeId × Value → H) (w : World) : Opn enc Try.prog w k40 40 wf40 :=
  ⟨by kernel_rfl, fun base spare held fuel cs x h hw => by
    obtain ⟨xs, n, _, rfl, hlen, hxl, hf⟩ := DataW.trod_struct Try.underlying40 h
    have hlen2 : cs.length = 5 := hlen.trans (by kernel_rfl)
    obtain ⟨a0, k0_, f0⟩ := opn_field Try.underlying40 hxl hf hw (j := 0) (o := 0) (s := 4) (d := k33) (wf := wf33) rfl rfl rfl (opn33 enc w)
    obtain ⟨a1, k1_, f1⟩ := opn_field Try.underlying40 hxl hf hw (j := 1) (o := 4) (s := 1) (d := kdOV) (wf := (fun _ : OV => True)) rfl rfl rfl (Go.Proofs.YtgpldjckohlkfaaOpv.opn_ov Try.underlying34 (by kernel_rfl))
    exact ⟨⟨a0, a1⟩, (pairK (o := 0) (s := 4) k0_ (lastK (o := 4) (s := 1) hlen2 k1_)), ⟨f0, f1⟩⟩⟩
def wf42 (x : S42) : Prop := (fun a : Int => (Lit.int .i64 a).wf = true) x.f0 ∧ (fun a : ByteArray => a.size ≤ 140737488351232) x.f1 ∧ (fun a : Int => (Lit.int .u32 a).wf = true) x.f2 ∧ (fun a : Int => (Lit.int .u64 a).wf = true) x.f3 ∧ (fun _ : Bool => True) x.f4 ∧ (fun _ : Bool => True) x.f5 ∧ wf40 x.f6 ∧ wf33 x.f7 ∧ (fun a : Int => (Lit.int .u64 a).wf = true) x.f8 ∧ (fun a : Int => (Lit.int .i64 a).wf = true) x.f9 ∧ (fun a : Int => (Lit.int .i64 a).wf = true) x.f10
theorem opn42 {H : Type} (enc : TypeId × Value → H) (w : World) : Opn enc Try.prog w k42 42 wf42 :=
  ⟨by kernel_rfl, fun base spare held fuel cs x h hw => by
    obtain ⟨xs, n, _, rfl, hlen, hxl, hf⟩ := DataW.trod_struct Try.underlying42 h
    have hlen2 : cs.length = 18 := hlen.trans (by kernel_rfl)
    obtain ⟨a0, k0_, f0⟩ := opn_field Try.underlying42 hxl hf hw (j := 0) (o := 0) (s := 1) (d := (Kd.int .i64)) (wf := (fun a : Int => (Lit.int .i64 a).wf = true)) rfl rfl rfl (opn_int Try.underlying3 (by kernel_rfl))
    obtain ⟨a1, k1_, f1⟩ := opn_field Try.underlying42 hxl hf hw (j := 1) (o := 1) (s := 1) (d := Kd.string) (wf := (fun a : ByteArray => a.size ≤ 140737488351232)) rfl rfl rfl (opn_string Try.underlying9 (by kernel_rfl))
    obtain ⟨a2, k2_, f2⟩ := opn_field Try.underlying42 hxl hf hw (j := 2) (o := 2) (s := 1) (d := (Kd.int .u32)) (wf := (fun a : Int => (Lit.int .u32 a).wf = true)) rfl rfl rfl (opn_int Try.underlying29 (by kernel_rfl))
    obtain ⟨a3, k3_, f3⟩ := opn_field Try.underlying42 hxl hf hw (j := 3) (o := 3) (s := 1) (d := (Kd.int .u64)) (wf := (fun a : Int => (Lit.int .u64 a).wf = true)) rfl rfl rfl (opn_int Try.underlying22 (by kernel_rfl))
    obtain ⟨a4, k4_, f4⟩ := opn_field Try.underlying42 hxl hf hw (j := 4) (o := 4) (s := 1) (d := Kd.bool) (wf := (fun _ : Bool => True)) rfl rfl rfl (opn_bool Try.underlying4 (by kernel_rfl))
    obtain ⟨a5, k5_, f5⟩ := opn_field Try.underlying42 hxl hf hw (j := 5) (o := 5) (s := 1) (d := Kd.bool) (wf := (fun _ : Bool => True)) rfl rfl rfl (opn_bool Try.underlying4 (by kernel_rfl))
    obtain ⟨a6, k6_, f6⟩ := opn_field Try.underlying42 hxl hf hw (j := 6) (o := 6) (s := 5) (d := k40) (wf := wf40) rfl rfl rfl (opn40 enc w)
    obtain ⟨a7, k7_, f7⟩ := opn_field Try.underlying42 hxl hf hw (j := 7) (o := 11) (s := 4) (d := k33) (wf := wf33) rfl rfl rfl (opn33 enc w)
    obtain ⟨a8, k8_, f8⟩ := opn_field Try.underlying42 hxl hf hw (j := 8) (o := 15) (s := 1) (d := (Kd.int .u64)) (wf := (fun a : Int => (Lit.int .u64 a).wf = true)) rfl rfl rfl (opn_int Try.underlying22 (by kernel_rfl))
    obtain ⟨a9, k9_, f9⟩ := opn_field Try.underlying42 hxl hf hw (j := 9) (o := 16) (s := 1) (d := (Kd.int .i64)) (wf := (fun a : Int => (Lit.int .i64 a).wf = true)) rfl rfl rfl (opn_int Try.underlying3 (by kernel_rfl))
    obtain ⟨a10, k10_, f10⟩ := opn_field Try.underlying42 hxl hf hw (j := 10) (o := 17) (s := 1) (d := (Kd.int .i64)) (wf := (fun a : Int => (Lit.int .i64 a).wf = true)) rfl rfl rfl (opn_int Try.underlying3 (by kernel_rfl))
    exact ⟨⟨a0, a1, a2, a3, a4, a5, a6, a7, a8, a9, a10⟩, (pairK (o := 0) (s := 1) k0_ (pairK (o := 1) (s := 1) k1_ (pairK (o := 2) (s := 1) k2_ (pairK (o := 3) (s := 1) k3_ (pairK (o := 4) (s := 1) k4_ (pairK (o := 5) (s := 1) k5_ (pairK (o := 6) (s := 5) k6_ (pairK (o := 11) (s := 4) k7_ (pairK (o := 15) (s := 1) k8_ (pairK (o := 16) (s := 1) k9_ (lastK (o := 17) (s := 1) hlen2 k10_))))))))))), ⟨f0, f1, f2, f3, f4, f5, f6, f7, f8, f9, f10⟩⟩⟩
end Go.Proofs.Ytgpldjckohlkfaa.P
