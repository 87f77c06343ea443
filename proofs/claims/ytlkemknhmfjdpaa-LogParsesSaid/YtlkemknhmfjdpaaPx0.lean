-- Written by our own program (wip/pr) over the kit's print.py, with contracts of our own.
import Derived.Test.YtlkemknhmfjdpaaProg
import Derived.Below
import Derived.Deep.Draws
import Derived.Deep.AppendLies
import Derived.Maps.AppendAt
import Derived.OwnWalk
import Derived.Laws.BytesArg
import Derived.Laws.MakeOwn
import Derived.Laws.OwnMore
import Derived.Deep.OwnRows
import Derived.Tactics
import Derived.Lib.ConvBytes
import Derived.Laws.Slices
import Derived.WalkKit
import Derived.KernelRfl
import Derived.RowKit3
import Derived.Deep.LoopGhost
import Derived.Deep.QuietTactic
import Derived.BigQuiet
import Derived.WideLaws
import Derived.Deep.DeepCutAuto
import Derived.Deep.CutBlock
import Derived.Deep.RegionHeld3
import Derived.Laws.Rows
import Derived.Lib.AppendStr
import Derived.ArgAppend
import Derived.Laws.IdiomCopy
import Derived.OrdersHeld
import Derived.Laws.BitsLemmas
import Derived.RowKit
import Derived.Test.YtlkemknhmfjdpaaWWords
import Derived.Test.YtlkemknhmfjdpaaWLast
import Derived.Test.YtlkemknhmfjdpaaWTab
import Derived.Test.YtlkemknhmfjdpaaWFour
import Derived.Test.YtlkemknhmfjdpaaWQPut
import Derived.Test.YtlkemknhmfjdpaaWApart
import Derived.Test.YtlkemknhmfjdpaaWArr
import Derived.Test.YtlkemknhmfjdpaaWZeros
import Derived.Test.YtlkemknhmfjdpaaWFoot
import Derived.Test.YtlkemknhmfjdpaaWKept
import Derived.Test.YtlkemknhmfjdpaaWShare
import Derived.Test.YtlkemknhmfjdpaaWN
import Derived.Test.YtlkemknhmfjdpaaWFootNe
import Derived.Test.YtlkemknhmfjdpaaWAt
import Derived.Test.YtlkemknhmfjdpaaWEqStruct
import Derived.Test.YtlkemknhmfjdpaaWRepsOne
import Derived.Test.YtlkemknhmfjdpaaWInv
import Derived.Test.YtlkemknhmfjdpaaWInvWords
import Derived.Test.YtlkemknhmfjdpaaWGuard
import Derived.Test.YtlkemknhmfjdpaaWNEv
import Derived.Test.YtlkemknhmfjdpaaWMore
import Derived.Test.YtlkemknhmfjdpaaXtra
namespace Go.Proofs.Ytlkemknhmfjdpaa.P
open Go.RowKit Go.Proofs.YtlkemknhmfjdpaaW.PrintWords Go.Proofs.YtlkemknhmfjdpaaW.PrintLast Go.Proofs.YtlkemknhmfjdpaaW.PrintMore
attribute [local go_sem] max2_int min2_int max_two min_two max_three min_three max_four min_four   -- for this text's walks alone
set_option linter.unusedVariables false
set_option linter.unusedSimpArgs false



def errW : Option Int → Value
  | none => .nilIface
  | some c => .iface 0 (.int .i64 c)
theorem errW_none : errW none = .nilIface := rfl
theorem errW_some (c : Int) : errW (some c) = .iface 0 (.int .i64 c) := rfl

theorem info5 : (Try.prog.info? 5).map (fun i => (i.zero, i.size, i.bytes)) = some (some (.int .u8 0), 1, 1) := by kernel_rfl
theorem info27 : (Try.prog.info? 27).map (fun i => (i.zero, i.size, i.bytes)) = some (some (.agg #[(.int .u64 0), (.int .u64 0), (.int .i64 0), (.int .u64 0)]), 4, 32) := by kernel_rfl
-- the values' own types
/-! #### struct type 25 -/
structure S25 where
  f0 : Int
  f1 : Int
def z25 : S25 := ⟨(0 : Int), (0 : Int)⟩
def k25 : Kd S25 := Kd.iso (Kd.pair (Kd.int .u64) (Kd.int .i64)) (fun x : S25 => (x.f0, x.f1))
theorem k25_open {w : World} {x : S25} {cs : List Value} (h : k25.K w x cs) : cs = [.int .u64 x.f0, .int .i64 x.f1] := by
  obtain ⟨_, _, rfl, rfl, rfl⟩ := h
  exact rfl
theorem k25_mk (w : World) (x : S25)  : k25.K w x [.int .u64 x.f0, .int .i64 x.f1] := ⟨[.int .u64 x.f0], [.int .i64 x.f1], rfl, rfl, rfl⟩
theorem k25_mkM (w : World) (base : Nat) (ok : Nat → Prop) (x : S25)  : k25.M w base ok x [.int .u64 x.f0, .int .i64 x.f1] := ⟨[.int .u64 x.f0], [.int .i64 x.f1], rfl, rfl, rfl⟩
/-! #### struct type 27 -/
structure S27 where
  f0 : Int
  f1 : S25
  f2 : Int
def z27 : S27 := ⟨(0 : Int), z25, (0 : Int)⟩
def k27 : Kd S27 := Kd.iso (Kd.pair (Kd.int .u64) (Kd.pair k25 (Kd.int .u64))) (fun x : S27 => (x.f0, x.f1, x.f2))
theorem k27_open {w : World} {x : S27} {cs : List Value} (h : k27.K w x cs) : cs = [.int .u64 x.f0, .int .u64 x.f1.f0, .int .i64 x.f1.f1, .int .u64 x.f2] := by
  obtain ⟨_, _, rfl, rfl, ⟨_, _, rfl, s1, rfl⟩⟩ := h
  obtain rfl := k25_open s1
  exact rfl
theorem k27_mk (w : World) (x : S27)  : k27.K w x [.int .u64 x.f0, .int .u64 x.f1.f0, .int .i64 x.f1.f1, .int .u64 x.f2] := ⟨[.int .u64 x.f0], [.int .u64 x.f1.f0, .int .i64 x.f1.f1, .int .u64 x.f2], rfl, rfl, ⟨[.int .u64 x.f1.f0, .int .i64 x.f1.f1], [.int .u64 x.f2], rfl, (k25_mk w x.f1 ), rfl⟩⟩
theorem k27_mkM (w : World) (base : Nat) (ok : Nat → Prop) (x : S27)  : k27.M w base ok x [.int .u64 x.f0, .int .u64 x.f1.f0, .int .i64 x.f1.f1, .int .u64 x.f2] := ⟨[.int .u64 x.f0], [.int .u64 x.f1.f0, .int .i64 x.f1.f1, .int .u64 x.f2], rfl, rfl, ⟨[.int .u64 x.f1.f0, .int .i64 x.f1.f1], [.int .u64 x.f2], rfl, (k25_mkM w base ok x.f1 ), rfl⟩⟩
def rd_T27 (xs : List S27) (i : Int) : S27 := xs.getD i.toNat z27
theorem at_T27 {w : World} {A : Option Addr} {n : Nat} {xs : List S27} (h : Kd.C k27 w A n xs) (i : Int) (h0 : 0 ≤ i) (h1 : i < n) : ∃ ad , A = some ad ∧ w.cell? (ad.add (i.toNat * 4)) = some (.int .u64 (rd_T27 xs i).f0) ∧ w.cell? ⟨(ad.add (i.toNat * 4)).block, (ad.add (i.toNat * 4)).off + 1, none⟩ = some (.int .u64 (rd_T27 xs i).f1.f0) ∧ w.cell? ⟨(ad.add (i.toNat * 4)).block, (ad.add (i.toNat * 4)).off + 2, none⟩ = some (.int .i64 (rd_T27 xs i).f1.f1) ∧ w.cell? ⟨(ad.add (i.toNat * 4)).block, (ad.add (i.toNat * 4)).off + 3, none⟩ = some (.int .u64 (rd_T27 xs i).f2) := by
  obtain ⟨ad, c, e, _, hK, hc0⟩ := Kd.C_get h z27 i h0 h1
  have hc : ∀ j u, c[j]? = some u → w.cell? (ad.add (i.toNat * 4 + j)) = some u := hc0
  obtain rfl := k27_open hK
  exact ⟨ad, e, hc 0 _ rfl, by rw [← add_field _ _ 1 (by omega)]; exact hc 1 _ rfl, by rw [← add_field _ _ 2 (by omega)]; exact hc 2 _ rfl, by rw [← add_field _ _ 3 (by omega)]; exact hc 3 _ rfl⟩

/-! #### struct type 30 -/
/-! #### struct type 32 -/
/-! #### struct type 34 -/
/-! #### struct type 42 -/
/-! #### struct type 44 -/
/-! #### struct type 56 -/
end Go.Proofs.Ytlkemknhmfjdpaa.P
