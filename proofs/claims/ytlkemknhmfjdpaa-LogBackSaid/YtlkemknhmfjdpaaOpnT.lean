-- Written by our own program (wip/pr).
import Derived.Test.YtlkemknhmfjdpaaPx0
import Derived.Test.YtlkemknhmfjdpaaOpn
namespace Go.Proofs.Ytlkemknhmfjdpaa.P
open Go.RowKit Go.Proofs.YtlkemknhmfjdpaaW.PrintWords Go.Proofs.YtlkemknhmfjdpaaOpn
set_option linter.unusedVariables false
def wf25 (x : S25) : Prop := (fun a : Int => (Lit.int .u64 a).wf = true) x.f0 ∧ (fun a : Int => (Lit.int .i64 a).wf = true) x.f1
theorem opn25 {H : Type} (enc : TypeId × Value → H) (w : World) : Opn enc Try.prog w k25 25 wf25 :=
  ⟨by kernel_rfl, fun base spare held fuel cs x h hw => by
    obtain ⟨xs, n, _, rfl, hlen, hxl, hf⟩ := DataW.trod_struct Try.underlying25 h
    have hlen2 : cs.length = 2 := hlen.trans (by kernel_rfl)
    obtain ⟨a0, k0_, f0⟩ := opn_field Try.underlying25 hxl hf hw (j := 0) (o := 0) (s := 1) (d := (Kd.int .u64)) (wf := (fun a : Int => (Lit.int .u64 a).wf = true)) rfl rfl rfl (opn_int Try.underlying22 (by kernel_rfl))
    obtain ⟨a1, k1_, f1⟩ := opn_field Try.underlying25 hxl hf hw (j := 1) (o := 1) (s := 1) (d := (Kd.int .i64)) (wf := (fun a : Int => (Lit.int .i64 a).wf = true)) rfl rfl rfl (opn_int Try.underlying3 (by kernel_rfl))
    exact ⟨⟨a0, a1⟩, (pairK (o := 0) (s := 1) k0_ (lastK (o := 1) (s := 1) hlen2 k1_)), ⟨f0, f1⟩⟩⟩
def wf27 (x : S27) : Prop := (fun a : Int => (Lit.int .u64 a).wf = true) x.f0 ∧ wf25 x.f1 ∧ (fun a : Int => (Lit.int .u64 a).wf = true) x.f2
theorem opn27 {H : Type} (enc : TypeId × Value → H) (w : World) : Opn enc Try.prog w k27 27 wf27 :=
  ⟨by kernel_rfl, fun base spare held fuel cs x h hw => by
    obtain ⟨xs, n, _, rfl, hlen, hxl, hf⟩ := DataW.trod_struct Try.underlying27 h
    have hlen2 : cs.length = 4 := hlen.trans (by kernel_rfl)
    obtain ⟨a0, k0_, f0⟩ := opn_field Try.underlying27 hxl hf hw (j := 0) (o := 0) (s := 1) (d := (Kd.int .u64)) (wf := (fun a : Int => (Lit.int .u64 a).wf = true)) rfl rfl rfl (opn_int Try.underlying22 (by kernel_rfl))
    obtain ⟨a1, k1_, f1⟩ := opn_field Try.underlying27 hxl hf hw (j := 1) (o := 1) (s := 2) (d := k25) (wf := wf25) rfl rfl rfl (opn25 enc w)
    obtain ⟨a2, k2_, f2⟩ := opn_field Try.underlying27 hxl hf hw (j := 2) (o := 3) (s := 1) (d := (Kd.int .u64)) (wf := (fun a : Int => (Lit.int .u64 a).wf = true)) rfl rfl rfl (opn_int Try.underlying22 (by kernel_rfl))
    exact ⟨⟨a0, a1, a2⟩, (pairK (o := 0) (s := 1) k0_ (pairK (o := 1) (s := 2) k1_ (lastK (o := 3) (s := 1) hlen2 k2_))), ⟨f0, f1, f2⟩⟩⟩
def wf30 (x : S30) : Prop := wf27 x.f0 ∧ (fun l : List (S27) => l.length * 32 ≤ 140737488351232 ∧ l.length ≤ maxLen ∧ ∀ a ∈ l, wf27 a) x.f1
theorem opn30 {H : Type} (enc : TypeId × Value → H) (w : World) : Opn enc Try.prog w k30 30 wf30 :=
  ⟨by kernel_rfl, fun base spare held fuel cs x h hw => by
    obtain ⟨xs, n, _, rfl, hlen, hxl, hf⟩ := DataW.trod_struct Try.underlying30 h
    have hlen2 : cs.length = 5 := hlen.trans (by kernel_rfl)
    obtain ⟨a0, k0_, f0⟩ := opn_field Try.underlying30 hxl hf hw (j := 0) (o := 0) (s := 4) (d := k27) (wf := wf27) rfl rfl rfl (opn27 enc w)
    obtain ⟨a1, k1_, f1⟩ := opn_field Try.underlying30 hxl hf hw (j := 1) (o := 4) (s := 1) (d := (Kd.slice 27 k27)) (wf := (fun l : List (S27) => l.length * 32 ≤ 140737488351232 ∧ l.length ≤ maxLen ∧ ∀ a ∈ l, wf27 a)) rfl rfl rfl (opn_slice Try.underlying28 (by kernel_rfl) (by kernel_rfl) (opn27 enc w))
    exact ⟨⟨a0, a1⟩, (pairK (o := 0) (s := 4) k0_ (lastK (o := 4) (s := 1) hlen2 k1_)), ⟨f0, f1⟩⟩⟩
def wf32 (x : S32) : Prop := (fun a : Int => (Lit.int .u64 a).wf = true) x.f0 ∧ (fun a : Int => (Lit.int .u32 a).wf = true) x.f1 ∧ wf30 x.f2
theorem opn32 {H : Type} (enc : TypeId × Value → H) (w : World) : Opn enc Try.prog w k32 32 wf32 :=
  ⟨by kernel_rfl, fun base spare held fuel cs x h hw => by
    obtain ⟨xs, n, _, rfl, hlen, hxl, hf⟩ := DataW.trod_struct Try.underlying32 h
    have hlen2 : cs.length = 7 := hlen.trans (by kernel_rfl)
    obtain ⟨a0, k0_, f0⟩ := opn_field Try.underlying32 hxl hf hw (j := 0) (o := 0) (s := 1) (d := (Kd.int .u64)) (wf := (fun a : Int => (Lit.int .u64 a).wf = true)) rfl rfl rfl (opn_int Try.underlying22 (by kernel_rfl))
    obtain ⟨a1, k1_, f1⟩ := opn_field Try.underlying32 hxl hf hw (j := 1) (o := 1) (s := 1) (d := (Kd.int .u32)) (wf := (fun a : Int => (Lit.int .u32 a).wf = true)) rfl rfl rfl (opn_int Try.underlying23 (by kernel_rfl))
    obtain ⟨a2, k2_, f2⟩ := opn_field Try.underlying32 hxl hf hw (j := 2) (o := 2) (s := 5) (d := k30) (wf := wf30) rfl rfl rfl (opn30 enc w)
    exact ⟨⟨a0, a1, a2⟩, (pairK (o := 0) (s := 1) k0_ (pairK (o := 1) (s := 1) k1_ (lastK (o := 2) (s := 5) hlen2 k2_))), ⟨f0, f1, f2⟩⟩⟩
def wf34 (x : S34) : Prop := (fun a : Int => (Lit.int .i64 a).wf = true) x.f0 ∧ (fun a : ByteArray => a.size ≤ 140737488351232) x.f1 ∧ (fun a : Int => (Lit.int .u32 a).wf = true) x.f2 ∧ (fun a : Int => (Lit.int .u64 a).wf = true) x.f3 ∧ (fun _ : Bool => True) x.f4 ∧ (fun _ : Bool => True) x.f5 ∧ wf30 x.f6 ∧ wf27 x.f7 ∧ (fun a : Int => (Lit.int .u64 a).wf = true) x.f8 ∧ (fun a : Int => (Lit.int .i64 a).wf = true) x.f9 ∧ (fun a : Int => (Lit.int .i64 a).wf = true) x.f10
theorem opn34 {H : Type} (enc : TypeId × Value → H) (w : World) : Opn enc Try.prog w k34 34 wf34 :=
  ⟨by kernel_rfl, fun base spare held fuel cs x h hw => by
    obtain ⟨xs, n, _, rfl, hlen, hxl, hf⟩ := DataW.trod_struct Try.underlying34 h
    have hlen2 : cs.length = 18 := hlen.trans (by kernel_rfl)
    obtain ⟨a0, k0_, f0⟩ := opn_field Try.underlying34 hxl hf hw (j := 0) (o := 0) (s := 1) (d := (Kd.int .i64)) (wf := (fun a : Int => (Lit.int .i64 a).wf = true)) rfl rfl rfl (opn_int Try.underlying3 (by kernel_rfl))
    obtain ⟨a1, k1_, f1⟩ := opn_field Try.underlying34 hxl hf hw (j := 1) (o := 1) (s := 1) (d := Kd.string) (wf := (fun a : ByteArray => a.size ≤ 140737488351232)) rfl rfl rfl (opn_string Try.underlying9 (by kernel_rfl))
    obtain ⟨a2, k2_, f2⟩ := opn_field Try.underlying34 hxl hf hw (j := 2) (o := 2) (s := 1) (d := (Kd.int .u32)) (wf := (fun a : Int => (Lit.int .u32 a).wf = true)) rfl rfl rfl (opn_int Try.underlying23 (by kernel_rfl))
    obtain ⟨a3, k3_, f3⟩ := opn_field Try.underlying34 hxl hf hw (j := 3) (o := 3) (s := 1) (d := (Kd.int .u64)) (wf := (fun a : Int => (Lit.int .u64 a).wf = true)) rfl rfl rfl (opn_int Try.underlying22 (by kernel_rfl))
    obtain ⟨a4, k4_, f4⟩ := opn_field Try.underlying34 hxl hf hw (j := 4) (o := 4) (s := 1) (d := Kd.bool) (wf := (fun _ : Bool => True)) rfl rfl rfl (opn_bool Try.underlying4 (by kernel_rfl))
    obtain ⟨a5, k5_, f5⟩ := opn_field Try.underlying34 hxl hf hw (j := 5) (o := 5) (s := 1) (d := Kd.bool) (wf := (fun _ : Bool => True)) rfl rfl rfl (opn_bool Try.underlying4 (by kernel_rfl))
    obtain ⟨a6, k6_, f6⟩ := opn_field Try.underlying34 hxl hf hw (j := 6) (o := 6) (s := 5) (d := k30) (wf := wf30) rfl rfl rfl (opn30 enc w)
    obtain ⟨a7, k7_, f7⟩ := opn_field Try.underlying34 hxl hf hw (j := 7) (o := 11) (s := 4) (d := k27) (wf := wf27) rfl rfl rfl (opn27 enc w)
    obtain ⟨a8, k8_, f8⟩ := opn_field Try.underlying34 hxl hf hw (j := 8) (o := 15) (s := 1) (d := (Kd.int .u64)) (wf := (fun a : Int => (Lit.int .u64 a).wf = true)) rfl rfl rfl (opn_int Try.underlying22 (by kernel_rfl))
    obtain ⟨a9, k9_, f9⟩ := opn_field Try.underlying34 hxl hf hw (j := 9) (o := 16) (s := 1) (d := (Kd.int .i64)) (wf := (fun a : Int => (Lit.int .i64 a).wf = true)) rfl rfl rfl (opn_int Try.underlying3 (by kernel_rfl))
    obtain ⟨a10, k10_, f10⟩ := opn_field Try.underlying34 hxl hf hw (j := 10) (o := 17) (s := 1) (d := (Kd.int .i64)) (wf := (fun a : Int => (Lit.int .i64 a).wf = true)) rfl rfl rfl (opn_int Try.underlying3 (by kernel_rfl))
    exact ⟨⟨a0, a1, a2, a3, a4, a5, a6, a7, a8, a9, a10⟩, (pairK (o := 0) (s := 1) k0_ (pairK (o := 1) (s := 1) k1_ (pairK (o := 2) (s := 1) k2_ (pairK (o := 3) (s := 1) k3_ (pairK (o := 4) (s := 1) k4_ (pairK (o := 5) (s := 1) k5_ (pairK (o := 6) (s := 5) k6_ (pairK (o := 11) (s := 4) k7_ (pairK (o := 15) (s := 1) k8_ (pairK (o := 16) (s := 1) k9_ (lastK (o := 17) (s := 1) hlen2 k10_))))))))))), ⟨f0, f1, f2, f3, f4, f5, f6, f7, f8, f9, f10⟩⟩⟩
end Go.Proofs.Ytlkemknhmfjdpaa.P
