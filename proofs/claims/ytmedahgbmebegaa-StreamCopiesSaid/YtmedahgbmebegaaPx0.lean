-- Written by our own program (wip/pr) over the kit's print.py, with contracts of our own.
import Derived.Test.YtmedahgbmebegaaProg
import Derived.Below
import Derived.Deep.Draws
import Derived.Deep.AppendLies
import Derived.Maps.AppendAt
import Derived.OwnWalk
import Derived.Laws.BytesArg
import Derived.Laws.MakeOwn
import Derived.Laws.OwnMore
import Derived.Deep.OwnRows
import Derived.Tactics
import Derived.Lib.ConvBytes
import Derived.Laws.Slices
import Derived.WalkKit
import Derived.KernelRfl
import Derived.RowKit3
import Derived.Deep.LoopGhost
import Derived.Deep.QuietTactic
import Derived.BigQuiet
import Derived.WideLaws
import Derived.Deep.DeepCutAuto
import Derived.Deep.CutBlock
import Derived.Deep.RegionHeld3
import Derived.Laws.Rows
import Derived.Lib.AppendStr
import Derived.ArgAppend
import Derived.Laws.IdiomCopy
import Derived.OrdersHeld
import Derived.Laws.BitsLemmas
import Derived.RowKit
import Derived.Test.YtmedahgbmebegaaWWords
import Derived.Test.YtmedahgbmebegaaWLast
import Derived.Test.YtmedahgbmebegaaWTab
import Derived.Test.YtmedahgbmebegaaWFour
import Derived.Test.YtmedahgbmebegaaWQPut
import Derived.Test.YtmedahgbmebegaaWApart
import Derived.Test.YtmedahgbmebegaaWArr
import Derived.Test.YtmedahgbmebegaaWZeros
import Derived.Test.YtmedahgbmebegaaWFoot
import Derived.Test.YtmedahgbmebegaaWKept
import Derived.Test.YtmedahgbmebegaaWShare
import Derived.Test.YtmedahgbmebegaaWN
import Derived.Test.YtmedahgbmebegaaWFootNe
import Derived.Test.YtmedahgbmebegaaWAt
import Derived.Test.YtmedahgbmebegaaWEqStruct
import Derived.Test.YtmedahgbmebegaaWRepsOne
import Derived.Test.YtmedahgbmebegaaWInv
import Derived.Test.YtmedahgbmebegaaWInvWords
import Derived.Test.YtmedahgbmebegaaWGuard
import Derived.Test.YtmedahgbmebegaaWNEv
import Derived.Test.YtmedahgbmebegaaWMore
import Derived.Test.YtmedahgbmebegaaOv
import Derived.Test.YtmedahgbmebegaaXtra
namespace Go.Proofs.Ytmedahgbmebegaa.P
open Go.Proofs.YtmedahgbmebegaaOv
open Go.RowKit Go.Proofs.YtmedahgbmebegaaW.PrintWords Go.Proofs.YtmedahgbmebegaaW.PrintLast Go.Proofs.YtmedahgbmebegaaW.PrintMore
attribute [local go_sem] max2_int min2_int max_two min_two max_three min_three max_four min_four   -- for this text's walks alone
set_option linter.unusedVariables false
set_option linter.unusedSimpArgs false
set_option linter.unusedSectionVars false
variable [TheW]



def errW : Option Int → Value
  | none => .nilIface
  | some c => .iface 0 (.int .i64 c)
theorem errW_none : errW none = .nilIface := rfl
theorem errW_some (c : Int) : errW (some c) = .iface 0 (.int .i64 c) := rfl

theorem info23 : (Try.prog.info? 23).map (fun i => (i.zero, i.size, i.bytes)) = some (some (.int .u32 0), 1, 4) := by kernel_rfl
theorem info37 : (Try.prog.info? 37).map (fun i => (i.zero, i.size, i.bytes)) = some (some (.agg #[(.int .i64 0), (.int .u32 0), (.int .u64 0), (.int .i64 0), (.slice none 0 0), (.string ⟨#[]⟩)]), 6, 72) := by kernel_rfl
-- the values' own types
/-! #### struct type 37 -/
structure S37 where
  f0 : Int
  f1 : Int
  f2 : Int
  f3 : Int
  f4 : OV
  f5 : ByteArray
def z37 : S37 := ⟨(0 : Int), (0 : Int), (0 : Int), (0 : Int), OV.nil, (⟨#[]⟩ : ByteArray)⟩
def k37 : Kd S37 := Kd.iso (Kd.pair (Kd.int .i64) (Kd.pair (Kd.int .u32) (Kd.pair (Kd.int .u64) (Kd.pair (Kd.int .i64) (Kd.pair kdOV Kd.string))))) (fun x : S37 => (x.f0, x.f1, x.f2, x.f3, x.f4, x.f5))
theorem k37_open {w : World} {x : S37} {cs : List Value} (h : k37.K w x cs) : cs = [.int .i64 x.f0, .int .u32 x.f1, .int .u64 x.f2, .int .i64 x.f3, .slice x.f4.A x.f4.n x.f4.c, .string x.f5] := by
  obtain ⟨_, _, rfl, rfl, ⟨_, _, rfl, rfl, ⟨_, _, rfl, rfl, ⟨_, _, rfl, rfl, ⟨_, _, rfl, rfl, rfl⟩⟩⟩⟩⟩ := h
  exact rfl
theorem k37_openM {w : World} {base : Nat} {ok : Nat → Prop} {x : S37} {cs : List Value} (h : k37.M w base ok x cs) : cs = [.int .i64 x.f0, .int .u32 x.f1, .int .u64 x.f2, .int .i64 x.f3, .slice x.f4.A x.f4.n x.f4.c, .string x.f5] := by
  obtain ⟨_, _, rfl, rfl, ⟨_, _, rfl, rfl, ⟨_, _, rfl, rfl, ⟨_, _, rfl, rfl, ⟨_, _, rfl, rfl, rfl⟩⟩⟩⟩⟩ := h
  exact rfl
theorem k37_mk (w : World) (x : S37)  : k37.K w x [.int .i64 x.f0, .int .u32 x.f1, .int .u64 x.f2, .int .i64 x.f3, .slice x.f4.A x.f4.n x.f4.c, .string x.f5] := ⟨[.int .i64 x.f0], [.int .u32 x.f1, .int .u64 x.f2, .int .i64 x.f3, .slice x.f4.A x.f4.n x.f4.c, .string x.f5], rfl, rfl, ⟨[.int .u32 x.f1], [.int .u64 x.f2, .int .i64 x.f3, .slice x.f4.A x.f4.n x.f4.c, .string x.f5], rfl, rfl, ⟨[.int .u64 x.f2], [.int .i64 x.f3, .slice x.f4.A x.f4.n x.f4.c, .string x.f5], rfl, rfl, ⟨[.int .i64 x.f3], [.slice x.f4.A x.f4.n x.f4.c, .string x.f5], rfl, rfl, ⟨[.slice x.f4.A x.f4.n x.f4.c], [.string x.f5], rfl, rfl, rfl⟩⟩⟩⟩⟩
theorem k37_mkM (w : World) (base : Nat) (ok : Nat → Prop) (x : S37)  : k37.M w base ok x [.int .i64 x.f0, .int .u32 x.f1, .int .u64 x.f2, .int .i64 x.f3, .slice x.f4.A x.f4.n x.f4.c, .string x.f5] := ⟨[.int .i64 x.f0], [.int .u32 x.f1, .int .u64 x.f2, .int .i64 x.f3, .slice x.f4.A x.f4.n x.f4.c, .string x.f5], rfl, rfl, ⟨[.int .u32 x.f1], [.int .u64 x.f2, .int .i64 x.f3, .slice x.f4.A x.f4.n x.f4.c, .string x.f5], rfl, rfl, ⟨[.int .u64 x.f2], [.int .i64 x.f3, .slice x.f4.A x.f4.n x.f4.c, .string x.f5], rfl, rfl, ⟨[.int .i64 x.f3], [.slice x.f4.A x.f4.n x.f4.c, .string x.f5], rfl, rfl, ⟨[.slice x.f4.A x.f4.n x.f4.c], [.string x.f5], rfl, rfl, rfl⟩⟩⟩⟩⟩
def rd_T37 (xs : List S37) (i : Int) : S37 := xs.getD i.toNat z37
theorem at_T37 {w : World} {A : Option Addr} {n : Nat} {xs : List S37} (h : Kd.C k37 w A n xs) (i : Int) (h0 : 0 ≤ i) (h1 : i < n) : ∃ ad , A = some ad ∧ w.cell? (ad.add (i.toNat * 6)) = some (.int .i64 (rd_T37 xs i).f0) ∧ w.cell? ⟨(ad.add (i.toNat * 6)).block, (ad.add (i.toNat * 6)).off + 1, none⟩ = some (.int .u32 (rd_T37 xs i).f1) ∧ w.cell? ⟨(ad.add (i.toNat * 6)).block, (ad.add (i.toNat * 6)).off + 2, none⟩ = some (.int .u64 (rd_T37 xs i).f2) ∧ w.cell? ⟨(ad.add (i.toNat * 6)).block, (ad.add (i.toNat * 6)).off + 3, none⟩ = some (.int .i64 (rd_T37 xs i).f3) ∧ w.cell? ⟨(ad.add (i.toNat * 6)).block, (ad.add (i.toNat * 6)).off + 4, none⟩ = some (.slice (rd_T37 xs i).f4.A (rd_T37 xs i).f4.n (rd_T37 xs i).f4.c) ∧ w.cell? ⟨(ad.add (i.toNat * 6)).block, (ad.add (i.toNat * 6)).off + 5, none⟩ = some (.string (rd_T37 xs i).f5) := by
  obtain ⟨ad, c, e, _, hK, hc0⟩ := Kd.C_get h z37 i h0 h1
  have hc : ∀ j u, c[j]? = some u → w.cell? (ad.add (i.toNat * 6 + j)) = some u := hc0
  obtain rfl := k37_open hK
  exact ⟨ad, e, hc 0 _ rfl, by rw [← add_field _ _ 1 (by omega)]; exact hc 1 _ rfl, by rw [← add_field _ _ 2 (by omega)]; exact hc 2 _ rfl, by rw [← add_field _ _ 3 (by omega)]; exact hc 3 _ rfl, by rw [← add_field _ _ 4 (by omega)]; exact hc 4 _ rfl, by rw [← add_field _ _ 5 (by omega)]; exact hc 5 _ rfl⟩

def rd_L6 (xs : List (List S37)) (i : Int) : (List S37) := xs.getD i.toNat ([] : List S37)
theorem at_L6 {w : World} {A : Option Addr} {n : Nat} {xs : List (List S37)} (h : Kd.C (Kd.slice 37 k37) w A n xs) (i : Int) (h0 : 0 ≤ i) (h1 : i < n) : ∃ ad A0 c0, A = some ad ∧ w.cell? (ad.add i.toNat) = some (.slice A0 (rd_L6 xs i).length c0) ∧ (rd_L6 xs i).length ≤ c0 ∧ k37.C w A0 (rd_L6 xs i).length (rd_L6 xs i) := by
  obtain ⟨ad, c, e, _, hK, hc0⟩ := Kd.C_get h ([] : List S37) i h0 h1
  have hc : ∀ j u, c[j]? = some u → w.cell? (ad.add (i.toNat * 1 + j)) = some u := hc0
  obtain ⟨A0, c0, rfl, l0, g0⟩ := hK
  exact ⟨ad, A0, c0, e, by have hq := hc 0 _ rfl; rwa [Nat.mul_one, Nat.add_zero] at hq, l0, g0⟩

end Go.Proofs.Ytmedahgbmebegaa.P
