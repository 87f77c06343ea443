-- Written by our own program (wip/pr) over the kit's print.py, with contracts of our own.
import Derived.Test.YtlkemknhmfjdpaaProg
import Derived.Below
import Derived.Deep.Draws
import Derived.Deep.AppendLies
import Derived.Maps.AppendAt
import Derived.OwnWalk
import Derived.Laws.BytesArg
import Derived.Laws.MakeOwn
import Derived.Laws.OwnMore
import Derived.Deep.OwnRows
import Derived.Tactics
import Derived.Lib.ConvBytes
import Derived.Laws.Slices
import Derived.WalkKit
import Derived.KernelRfl
import Derived.RowKit3
import Derived.Deep.LoopGhost
import Derived.Deep.QuietTactic
import Derived.BigQuiet
import Derived.WideLaws
import Derived.Deep.DeepCutAuto
import Derived.Deep.CutBlock
import Derived.Deep.RegionHeld3
import Derived.Laws.Rows
import Derived.Lib.AppendStr
import Derived.ArgAppend
import Derived.Laws.IdiomCopy
import Derived.OrdersHeld
import Derived.Laws.BitsLemmas
import Derived.RowKit
import Derived.Test.YtlkemknhmfjdpaaWWords
import Derived.Test.YtlkemknhmfjdpaaWLast
import Derived.Test.YtlkemknhmfjdpaaWTab
import Derived.Test.YtlkemknhmfjdpaaWFour
import Derived.Test.YtlkemknhmfjdpaaWQPut
import Derived.Test.YtlkemknhmfjdpaaWApart
import Derived.Test.YtlkemknhmfjdpaaWArr
import Derived.Test.YtlkemknhmfjdpaaWZeros
import Derived.Test.YtlkemknhmfjdpaaWFoot
import Derived.Test.YtlkemknhmfjdpaaWKept
import Derived.Test.YtlkemknhmfjdpaaWShare
import Derived.Test.YtlkemknhmfjdpaaWN
import Derived.Test.YtlkemknhmfjdpaaWFootNe
import Derived.Test.YtlkemknhmfjdpaaWAt
import Derived.Test.YtlkemknhmfjdpaaWEqStruct
import Derived.Test.YtlkemknhmfjdpaaWRepsOne
import Derived.Test.YtlkemknhmfjdpaaWInv
import Derived.Test.YtlkemknhmfjdpaaWInvWords
import Derived.Test.YtlkemknhmfjdpaaWGuard
import Derived.Test.YtlkemknhmfjdpaaWNEv
import Derived.Test.YtlkemknhmfjdpaaWMore
import Derived.Test.YtlkemknhmfjdpaaXtra
namespace Go.Proofs.Ytlkemknhmfjdpaa.P
open Go.RowKit Go.Proofs.YtlkemknhmfjdpaaW.PrintWords Go.Proofs.YtlkemknhmfjdpaaW.PrintLast Go.Proofs.YtlkemknhmfjdpaaW.PrintMore
attribute [local go_sem] max2_int min2_int max_two min_two max_three min_three max_four min_four   -- for this text's walks alone
set_option linter.unusedVariables false
set_option linter.unusedSimpArgs false



def errW : Option Int → Value
  | none => .nilIface
  | some c => .iface 0 (.int .i64 c)
theorem errW_none : errW none = .nilIface := rfl
theorem errW_some (c : Int) : errW (some c) = .iface 0 (.int .i64 c) := rfl

theorem info5 : (Try.prog.info? 5).map (fun i => (i.zero, i.size, i.bytes)) = some (some (.int .u8 0), 1, 1) := by kernel_rfl
theorem info27 : (Try.prog.info? 27).map (fun i => (i.zero, i.size, i.bytes)) = some (some (.agg #[(.int .u64 0), (.int .u64 0), (.int .i64 0), (.int .u64 0)]), 4, 32) := by kernel_rfl
-- the values' own types
/-! #### struct type 25 -/
structure S25 where
  f0 : Int
  f1 : Int
def z25 : S25 := ⟨(0 : Int), (0 : Int)⟩
def k25 : Kd S25 := Kd.iso (Kd.pair (Kd.int .u64) (Kd.int .i64)) (fun x : S25 => (x.f0, x.f1))
theorem k25_open {w : World} {x : S25} {cs : List Value} (h : k25.K w x cs) : cs = [.int .u64 x.f0, .int .i64 x.f1] := by
  obtain ⟨_, _, rfl, rfl, rfl⟩ := h
  exact rfl
theorem k25_openM {w : World} {base : Nat} {ok : Nat → Prop} {x : S25} {cs : List Value} (h : k25.M w base ok x cs) : cs = [.int .u64 x.f0, .int .i64 x.f1] := by
  obtain ⟨_, _, rfl, rfl, rfl⟩ := h
  exact rfl
theorem k25_mk (w : World) (x : S25)  : k25.K w x [.int .u64 x.f0, .int .i64 x.f1] := ⟨[.int .u64 x.f0], [.int .i64 x.f1], rfl, rfl, rfl⟩
theorem k25_mkM (w : World) (base : Nat) (ok : Nat → Prop) (x : S25)  : k25.M w base ok x [.int .u64 x.f0, .int .i64 x.f1] := ⟨[.int .u64 x.f0], [.int .i64 x.f1], rfl, rfl, rfl⟩
def rd_T25 (xs : List S25) (i : Int) : S25 := xs.getD i.toNat z25
theorem at_T25 {w : World} {A : Option Addr} {n : Nat} {xs : List S25} (h : Kd.C k25 w A n xs) (i : Int) (h0 : 0 ≤ i) (h1 : i < n) : ∃ ad , A = some ad ∧ w.cell? (ad.add (i.toNat * 2)) = some (.int .u64 (rd_T25 xs i).f0) ∧ w.cell? ⟨(ad.add (i.toNat * 2)).block, (ad.add (i.toNat * 2)).off + 1, none⟩ = some (.int .i64 (rd_T25 xs i).f1) := by
  obtain ⟨ad, c, e, _, hK, hc0⟩ := Kd.C_get h z25 i h0 h1
  have hc : ∀ j u, c[j]? = some u → w.cell? (ad.add (i.toNat * 2 + j)) = some u := hc0
  obtain rfl := k25_open hK
  exact ⟨ad, e, hc 0 _ rfl, by rw [← add_field _ _ 1 (by omega)]; exact hc 1 _ rfl⟩

/-! #### struct type 27 -/
structure S27 where
  f0 : Int
  f1 : S25
  f2 : Int
def z27 : S27 := ⟨(0 : Int), z25, (0 : Int)⟩
def k27 : Kd S27 := Kd.iso (Kd.pair (Kd.int .u64) (Kd.pair k25 (Kd.int .u64))) (fun x : S27 => (x.f0, x.f1, x.f2))
theorem k27_open {w : World} {x : S27} {cs : List Value} (h : k27.K w x cs) : cs = [.int .u64 x.f0, .int .u64 x.f1.f0, .int .i64 x.f1.f1, .int .u64 x.f2] := by
  obtain ⟨_, _, rfl, rfl, ⟨_, _, rfl, s1, rfl⟩⟩ := h
  obtain rfl := k25_open s1
  exact rfl
theorem k27_openM {w : World} {base : Nat} {ok : Nat → Prop} {x : S27} {cs : List Value} (h : k27.M w base ok x cs) : cs = [.int .u64 x.f0, .int .u64 x.f1.f0, .int .i64 x.f1.f1, .int .u64 x.f2] := by
  obtain ⟨_, _, rfl, rfl, ⟨_, _, rfl, s1, rfl⟩⟩ := h
  obtain rfl := k25_openM s1
  exact rfl
theorem k27_mk (w : World) (x : S27)  : k27.K w x [.int .u64 x.f0, .int .u64 x.f1.f0, .int .i64 x.f1.f1, .int .u64 x.f2] := ⟨[.int .u64 x.f0], [.int .u64 x.f1.f0, .int .i64 x.f1.f1, .int .u64 x.f2], rfl, rfl, ⟨[.int .u64 x.f1.f0, .int .i64 x.f1.f1], [.int .u64 x.f2], rfl, (k25_mk w x.f1 ), rfl⟩⟩
theorem k27_mkM (w : World) (base : Nat) (ok : Nat → Prop) (x : S27)  : k27.M w base ok x [.int .u64 x.f0, .int .u64 x.f1.f0, .int .i64 x.f1.f1, .int .u64 x.f2] := ⟨[.int .u64 x.f0], [.int .u64 x.f1.f0, .int .i64 x.f1.f1, .int .u64 x.f2], rfl, rfl, ⟨[.int .u64 x.f1.f0, .int .i64 x.f1.f1], [.int .u64 x.f2], rfl, (k25_mkM w base ok x.f1 ), rfl⟩⟩
def rd_T27 (xs : List S27) (i : Int) : S27 := xs.getD i.toNat z27
theorem at_T27 {w : World} {A : Option Addr} {n : Nat} {xs : List S27} (h : Kd.C k27 w A n xs) (i : Int) (h0 : 0 ≤ i) (h1 : i < n) : ∃ ad , A = some ad ∧ w.cell? (ad.add (i.toNat * 4)) = some (.int .u64 (rd_T27 xs i).f0) ∧ w.cell? ⟨(ad.add (i.toNat * 4)).block, (ad.add (i.toNat * 4)).off + 1, none⟩ = some (.int .u64 (rd_T27 xs i).f1.f0) ∧ w.cell? ⟨(ad.add (i.toNat * 4)).block, (ad.add (i.toNat * 4)).off + 2, none⟩ = some (.int .i64 (rd_T27 xs i).f1.f1) ∧ w.cell? ⟨(ad.add (i.toNat * 4)).block, (ad.add (i.toNat * 4)).off + 3, none⟩ = some (.int .u64 (rd_T27 xs i).f2) := by
  obtain ⟨ad, c, e, _, hK, hc0⟩ := Kd.C_get h z27 i h0 h1
  have hc : ∀ j u, c[j]? = some u → w.cell? (ad.add (i.toNat * 4 + j)) = some u := hc0
  obtain rfl := k27_open hK
  exact ⟨ad, e, hc 0 _ rfl, by rw [← add_field _ _ 1 (by omega)]; exact hc 1 _ rfl, by rw [← add_field _ _ 2 (by omega)]; exact hc 2 _ rfl, by rw [← add_field _ _ 3 (by omega)]; exact hc 3 _ rfl⟩

def rd_L6 (xs : List (List S27)) (i : Int) : (List S27) := xs.getD i.toNat ([] : List S27)
theorem at_L6 {w : World} {A : Option Addr} {n : Nat} {xs : List (List S27)} (h : Kd.C (Kd.slice 27 k27) w A n xs) (i : Int) (h0 : 0 ≤ i) (h1 : i < n) : ∃ ad A0 c0, A = some ad ∧ w.cell? (ad.add i.toNat) = some (.slice A0 (rd_L6 xs i).length c0) ∧ (rd_L6 xs i).length ≤ c0 ∧ k27.C w A0 (rd_L6 xs i).length (rd_L6 xs i) := by
  obtain ⟨ad, c, e, _, hK, hc0⟩ := Kd.C_get h ([] : List S27) i h0 h1
  have hc : ∀ j u, c[j]? = some u → w.cell? (ad.add (i.toNat * 1 + j)) = some u := hc0
  obtain ⟨A0, c0, rfl, l0, g0⟩ := hK
  exact ⟨ad, A0, c0, e, by have hq := hc 0 _ rfl; rwa [Nat.mul_one, Nat.add_zero] at hq, l0, g0⟩

/-! #### struct type 30 -/
structure S30 where
  f0 : S27
  f1 : (List S27)
def z30 : S30 := ⟨z27, ([] : List S27)⟩
def k30 : Kd S30 := Kd.iso (Kd.pair k27 (Kd.slice 27 k27)) (fun x : S30 => (x.f0, x.f1))
theorem k30_open {w : World} {x : S30} {cs : List Value} (h : k30.K w x cs) : ∃ A4 c4, cs = [.int .u64 x.f0.f0, .int .u64 x.f0.f1.f0, .int .i64 x.f0.f1.f1, .int .u64 x.f0.f2, .slice A4 x.f1.length c4] ∧ x.f1.length ≤ c4 ∧ k27.C w A4 x.f1.length x.f1 := by
  obtain ⟨_, _, rfl, s0, ⟨A4, c4, rfl, l4, g4⟩⟩ := h
  obtain rfl := k27_open s0
  exact ⟨A4, c4, rfl, l4, g4⟩
theorem k30_openM {w : World} {base : Nat} {ok : Nat → Prop} {x : S30} {cs : List Value} (h : k30.M w base ok x cs) : ∃ v4, cs = [.int .u64 x.f0.f0, .int .u64 x.f0.f1.f0, .int .i64 x.f0.f1.f1, .int .u64 x.f0.f2, v4] ∧ k27.R 27 w base ok v4 x.f1 := by
  obtain ⟨_, _, rfl, s0, ⟨v4, rfl, g4⟩⟩ := h
  obtain rfl := k27_openM s0
  exact ⟨v4, rfl, g4⟩
theorem k30_mk (w : World) (x : S30) {A4 : Option Addr} {c4 : Nat} (l4 : x.f1.length ≤ c4) (g4 : k27.C w A4 x.f1.length x.f1) : k30.K w x [.int .u64 x.f0.f0, .int .u64 x.f0.f1.f0, .int .i64 x.f0.f1.f1, .int .u64 x.f0.f2, .slice A4 x.f1.length c4] := ⟨[.int .u64 x.f0.f0, .int .u64 x.f0.f1.f0, .int .i64 x.f0.f1.f1, .int .u64 x.f0.f2], [.slice A4 x.f1.length c4], rfl, (k27_mk w x.f0 ), ⟨A4, c4, rfl, l4, g4⟩⟩
theorem k30_mkM (w : World) (base : Nat) (ok : Nat → Prop) (x : S30) {v4 : Value} (g4 : k27.R 27 w base ok v4 x.f1) : k30.M w base ok x [.int .u64 x.f0.f0, .int .u64 x.f0.f1.f0, .int .i64 x.f0.f1.f1, .int .u64 x.f0.f2, v4] := ⟨[.int .u64 x.f0.f0, .int .u64 x.f0.f1.f0, .int .i64 x.f0.f1.f1, .int .u64 x.f0.f2], [v4], rfl, (k27_mkM w base ok x.f0 ), ⟨v4, rfl, g4⟩⟩
def rd_T30 (xs : List S30) (i : Int) : S30 := xs.getD i.toNat z30
theorem at_T30 {w : World} {A : Option Addr} {n : Nat} {xs : List S30} (h : Kd.C k30 w A n xs) (i : Int) (h0 : 0 ≤ i) (h1 : i < n) : ∃ ad A4 c4, A = some ad ∧ w.cell? (ad.add (i.toNat * 5)) = some (.int .u64 (rd_T30 xs i).f0.f0) ∧ w.cell? ⟨(ad.add (i.toNat * 5)).block, (ad.add (i.toNat * 5)).off + 1, none⟩ = some (.int .u64 (rd_T30 xs i).f0.f1.f0) ∧ w.cell? ⟨(ad.add (i.toNat * 5)).block, (ad.add (i.toNat * 5)).off + 2, none⟩ = some (.int .i64 (rd_T30 xs i).f0.f1.f1) ∧ w.cell? ⟨(ad.add (i.toNat * 5)).block, (ad.add (i.toNat * 5)).off + 3, none⟩ = some (.int .u64 (rd_T30 xs i).f0.f2) ∧ w.cell? ⟨(ad.add (i.toNat * 5)).block, (ad.add (i.toNat * 5)).off + 4, none⟩ = some (.slice A4 (rd_T30 xs i).f1.length c4) ∧ (rd_T30 xs i).f1.length ≤ c4 ∧ k27.C w A4 (rd_T30 xs i).f1.length (rd_T30 xs i).f1 := by
  obtain ⟨ad, c, e, _, hK, hc0⟩ := Kd.C_get h z30 i h0 h1
  have hc : ∀ j u, c[j]? = some u → w.cell? (ad.add (i.toNat * 5 + j)) = some u := hc0
  obtain ⟨A4, c4, rfl, l4, g4⟩ := k30_open hK
  exact ⟨ad, A4, c4, e, hc 0 _ rfl, by rw [← add_field _ _ 1 (by omega)]; exact hc 1 _ rfl, by rw [← add_field _ _ 2 (by omega)]; exact hc 2 _ rfl, by rw [← add_field _ _ 3 (by omega)]; exact hc 3 _ rfl, by rw [← add_field _ _ 4 (by omega)]; exact hc 4 _ rfl, l4, g4⟩

/-! #### struct type 32 -/
structure S32 where
  f0 : Int
  f1 : Int
  f2 : S30
def z32 : S32 := ⟨(0 : Int), (0 : Int), z30⟩
def k32 : Kd S32 := Kd.iso (Kd.pair (Kd.int .u64) (Kd.pair (Kd.int .u32) k30)) (fun x : S32 => (x.f0, x.f1, x.f2))
theorem k32_open {w : World} {x : S32} {cs : List Value} (h : k32.K w x cs) : ∃ A6 c6, cs = [.int .u64 x.f0, .int .u32 x.f1, .int .u64 x.f2.f0.f0, .int .u64 x.f2.f0.f1.f0, .int .i64 x.f2.f0.f1.f1, .int .u64 x.f2.f0.f2, .slice A6 x.f2.f1.length c6] ∧ x.f2.f1.length ≤ c6 ∧ k27.C w A6 x.f2.f1.length x.f2.f1 := by
  obtain ⟨_, _, rfl, rfl, ⟨_, _, rfl, rfl, s2⟩⟩ := h
  obtain ⟨A6, c6, rfl, l6, g6⟩ := k30_open s2
  exact ⟨A6, c6, rfl, l6, g6⟩
theorem k32_openM {w : World} {base : Nat} {ok : Nat → Prop} {x : S32} {cs : List Value} (h : k32.M w base ok x cs) : ∃ v6, cs = [.int .u64 x.f0, .int .u32 x.f1, .int .u64 x.f2.f0.f0, .int .u64 x.f2.f0.f1.f0, .int .i64 x.f2.f0.f1.f1, .int .u64 x.f2.f0.f2, v6] ∧ k27.R 27 w base ok v6 x.f2.f1 := by
  obtain ⟨_, _, rfl, rfl, ⟨_, _, rfl, rfl, s2⟩⟩ := h
  obtain ⟨v6, rfl, g6⟩ := k30_openM s2
  exact ⟨v6, rfl, g6⟩
theorem k32_mk (w : World) (x : S32) {A6 : Option Addr} {c6 : Nat} (l6 : x.f2.f1.length ≤ c6) (g6 : k27.C w A6 x.f2.f1.length x.f2.f1) : k32.K w x [.int .u64 x.f0, .int .u32 x.f1, .int .u64 x.f2.f0.f0, .int .u64 x.f2.f0.f1.f0, .int .i64 x.f2.f0.f1.f1, .int .u64 x.f2.f0.f2, .slice A6 x.f2.f1.length c6] := ⟨[.int .u64 x.f0], [.int .u32 x.f1, .int .u64 x.f2.f0.f0, .int .u64 x.f2.f0.f1.f0, .int .i64 x.f2.f0.f1.f1, .int .u64 x.f2.f0.f2, .slice A6 x.f2.f1.length c6], rfl, rfl, ⟨[.int .u32 x.f1], [.int .u64 x.f2.f0.f0, .int .u64 x.f2.f0.f1.f0, .int .i64 x.f2.f0.f1.f1, .int .u64 x.f2.f0.f2, .slice A6 x.f2.f1.length c6], rfl, rfl, (k30_mk w x.f2 l6 g6)⟩⟩
theorem k32_mkM (w : World) (base : Nat) (ok : Nat → Prop) (x : S32) {v6 : Value} (g6 : k27.R 27 w base ok v6 x.f2.f1) : k32.M w base ok x [.int .u64 x.f0, .int .u32 x.f1, .int .u64 x.f2.f0.f0, .int .u64 x.f2.f0.f1.f0, .int .i64 x.f2.f0.f1.f1, .int .u64 x.f2.f0.f2, v6] := ⟨[.int .u64 x.f0], [.int .u32 x.f1, .int .u64 x.f2.f0.f0, .int .u64 x.f2.f0.f1.f0, .int .i64 x.f2.f0.f1.f1, .int .u64 x.f2.f0.f2, v6], rfl, rfl, ⟨[.int .u32 x.f1], [.int .u64 x.f2.f0.f0, .int .u64 x.f2.f0.f1.f0, .int .i64 x.f2.f0.f1.f1, .int .u64 x.f2.f0.f2, v6], rfl, rfl, (k30_mkM w base ok x.f2 g6)⟩⟩
def rd_T32 (xs : List S32) (i : Int) : S32 := xs.getD i.toNat z32
theorem at_T32 {w : World} {A : Option Addr} {n : Nat} {xs : List S32} (h : Kd.C k32 w A n xs) (i : Int) (h0 : 0 ≤ i) (h1 : i < n) : ∃ ad A6 c6, A = some ad ∧ w.cell? (ad.add (i.toNat * 7)) = some (.int .u64 (rd_T32 xs i).f0) ∧ w.cell? ⟨(ad.add (i.toNat * 7)).block, (ad.add (i.toNat * 7)).off + 1, none⟩ = some (.int .u32 (rd_T32 xs i).f1) ∧ w.cell? ⟨(ad.add (i.toNat * 7)).block, (ad.add (i.toNat * 7)).off + 2, none⟩ = some (.int .u64 (rd_T32 xs i).f2.f0.f0) ∧ w.cell? ⟨(ad.add (i.toNat * 7)).block, (ad.add (i.toNat * 7)).off + 3, none⟩ = some (.int .u64 (rd_T32 xs i).f2.f0.f1.f0) ∧ w.cell? ⟨(ad.add (i.toNat * 7)).block, (ad.add (i.toNat * 7)).off + 4, none⟩ = some (.int .i64 (rd_T32 xs i).f2.f0.f1.f1) ∧ w.cell? ⟨(ad.add (i.toNat * 7)).block, (ad.add (i.toNat * 7)).off + 5, none⟩ = some (.int .u64 (rd_T32 xs i).f2.f0.f2) ∧ w.cell? ⟨(ad.add (i.toNat * 7)).block, (ad.add (i.toNat * 7)).off + 6, none⟩ = some (.slice A6 (rd_T32 xs i).f2.f1.length c6) ∧ (rd_T32 xs i).f2.f1.length ≤ c6 ∧ k27.C w A6 (rd_T32 xs i).f2.f1.length (rd_T32 xs i).f2.f1 := by
  obtain ⟨ad, c, e, _, hK, hc0⟩ := Kd.C_get h z32 i h0 h1
  have hc : ∀ j u, c[j]? = some u → w.cell? (ad.add (i.toNat * 7 + j)) = some u := hc0
  obtain ⟨A6, c6, rfl, l6, g6⟩ := k32_open hK
  exact ⟨ad, A6, c6, e, hc 0 _ rfl, by rw [← add_field _ _ 1 (by omega)]; exact hc 1 _ rfl, by rw [← add_field _ _ 2 (by omega)]; exact hc 2 _ rfl, by rw [← add_field _ _ 3 (by omega)]; exact hc 3 _ rfl, by rw [← add_field _ _ 4 (by omega)]; exact hc 4 _ rfl, by rw [← add_field _ _ 5 (by omega)]; exact hc 5 _ rfl, by rw [← add_field _ _ 6 (by omega)]; exact hc 6 _ rfl, l6, g6⟩

/-! #### struct type 34 -/
structure S34 where
  f0 : Int
  f1 : ByteArray
  f2 : Int
  f3 : Int
  f4 : Bool
  f5 : Bool
  f6 : S30
  f7 : S27
  f8 : Int
  f9 : Int
  f10 : Int
def z34 : S34 := ⟨(0 : Int), (⟨#[]⟩ : ByteArray), (0 : Int), (0 : Int), false, false, z30, z27, (0 : Int), (0 : Int), (0 : Int)⟩
def k34 : Kd S34 := Kd.iso (Kd.pair (Kd.int .i64) (Kd.pair Kd.string (Kd.pair (Kd.int .u32) (Kd.pair (Kd.int .u64) (Kd.pair Kd.bool (Kd.pair Kd.bool (Kd.pair k30 (Kd.pair k27 (Kd.pair (Kd.int .u64) (Kd.pair (Kd.int .i64) (Kd.int .i64))))))))))) (fun x : S34 => (x.f0, x.f1, x.f2, x.f3, x.f4, x.f5, x.f6, x.f7, x.f8, x.f9, x.f10))
theorem k34_open {w : World} {x : S34} {cs : List Value} (h : k34.K w x cs) : ∃ A10 c10, cs = [.int .i64 x.f0, .string x.f1, .int .u32 x.f2, .int .u64 x.f3, .bool x.f4, .bool x.f5, .int .u64 x.f6.f0.f0, .int .u64 x.f6.f0.f1.f0, .int .i64 x.f6.f0.f1.f1, .int .u64 x.f6.f0.f2, .slice A10 x.f6.f1.length c10, .int .u64 x.f7.f0, .int .u64 x.f7.f1.f0, .int .i64 x.f7.f1.f1, .int .u64 x.f7.f2, .int .u64 x.f8, .int .i64 x.f9, .int .i64 x.f10] ∧ x.f6.f1.length ≤ c10 ∧ k27.C w A10 x.f6.f1.length x.f6.f1 := by
  obtain ⟨_, _, rfl, rfl, ⟨_, _, rfl, rfl, ⟨_, _, rfl, rfl, ⟨_, _, rfl, rfl, ⟨_, _, rfl, rfl, ⟨_, _, rfl, rfl, ⟨_, _, rfl, s6, ⟨_, _, rfl, s11, ⟨_, _, rfl, rfl, ⟨_, _, rfl, rfl, rfl⟩⟩⟩⟩⟩⟩⟩⟩⟩⟩ := h
  obtain ⟨A10, c10, rfl, l10, g10⟩ := k30_open s6
  obtain rfl := k27_open s11
  exact ⟨A10, c10, rfl, l10, g10⟩
theorem k34_openM {w : World} {base : Nat} {ok : Nat → Prop} {x : S34} {cs : List Value} (h : k34.M w base ok x cs) : ∃ v10, cs = [.int .i64 x.f0, .string x.f1, .int .u32 x.f2, .int .u64 x.f3, .bool x.f4, .bool x.f5, .int .u64 x.f6.f0.f0, .int .u64 x.f6.f0.f1.f0, .int .i64 x.f6.f0.f1.f1, .int .u64 x.f6.f0.f2, v10, .int .u64 x.f7.f0, .int .u64 x.f7.f1.f0, .int .i64 x.f7.f1.f1, .int .u64 x.f7.f2, .int .u64 x.f8, .int .i64 x.f9, .int .i64 x.f10] ∧ k27.R 27 w base ok v10 x.f6.f1 := by
  obtain ⟨_, _, rfl, rfl, ⟨_, _, rfl, rfl, ⟨_, _, rfl, rfl, ⟨_, _, rfl, rfl, ⟨_, _, rfl, rfl, ⟨_, _, rfl, rfl, ⟨_, _, rfl, s6, ⟨_, _, rfl, s11, ⟨_, _, rfl, rfl, ⟨_, _, rfl, rfl, rfl⟩⟩⟩⟩⟩⟩⟩⟩⟩⟩ := h
  obtain ⟨v10, rfl, g10⟩ := k30_openM s6
  obtain rfl := k27_openM s11
  exact ⟨v10, rfl, g10⟩
theorem k34_mk (w : World) (x : S34) {A10 : Option Addr} {c10 : Nat} (l10 : x.f6.f1.length ≤ c10) (g10 : k27.C w A10 x.f6.f1.length x.f6.f1) : k34.K w x [.int .i64 x.f0, .string x.f1, .int .u32 x.f2, .int .u64 x.f3, .bool x.f4, .bool x.f5, .int .u64 x.f6.f0.f0, .int .u64 x.f6.f0.f1.f0, .int .i64 x.f6.f0.f1.f1, .int .u64 x.f6.f0.f2, .slice A10 x.f6.f1.length c10, .int .u64 x.f7.f0, .int .u64 x.f7.f1.f0, .int .i64 x.f7.f1.f1, .int .u64 x.f7.f2, .int .u64 x.f8, .int .i64 x.f9, .int .i64 x.f10] := ⟨[.int .i64 x.f0], [.string x.f1, .int .u32 x.f2, .int .u64 x.f3, .bool x.f4, .bool x.f5, .int .u64 x.f6.f0.f0, .int .u64 x.f6.f0.f1.f0, .int .i64 x.f6.f0.f1.f1, .int .u64 x.f6.f0.f2, .slice A10 x.f6.f1.length c10, .int .u64 x.f7.f0, .int .u64 x.f7.f1.f0, .int .i64 x.f7.f1.f1, .int .u64 x.f7.f2, .int .u64 x.f8, .int .i64 x.f9, .int .i64 x.f10], rfl, rfl, ⟨[.string x.f1], [.int .u32 x.f2, .int .u64 x.f3, .bool x.f4, .bool x.f5, .int .u64 x.f6.f0.f0, .int .u64 x.f6.f0.f1.f0, .int .i64 x.f6.f0.f1.f1, .int .u64 x.f6.f0.f2, .slice A10 x.f6.f1.length c10, .int .u64 x.f7.f0, .int .u64 x.f7.f1.f0, .int .i64 x.f7.f1.f1, .int .u64 x.f7.f2, .int .u64 x.f8, .int .i64 x.f9, .int .i64 x.f10], rfl, rfl, ⟨[.int .u32 x.f2], [.int .u64 x.f3, .bool x.f4, .bool x.f5, .int .u64 x.f6.f0.f0, .int .u64 x.f6.f0.f1.f0, .int .i64 x.f6.f0.f1.f1, .int .u64 x.f6.f0.f2, .slice A10 x.f6.f1.length c10, .int .u64 x.f7.f0, .int .u64 x.f7.f1.f0, .int .i64 x.f7.f1.f1, .int .u64 x.f7.f2, .int .u64 x.f8, .int .i64 x.f9, .int .i64 x.f10], rfl, rfl, ⟨[.int .u64 x.f3], [.bool x.f4, .bool x.f5, .int .u64 x.f6.f0.f0, .int .u64 x.f6.f0.f1.f0, .int .i64 x.f6.f0.f1.f1, .int .u64 x.f6.f0.f2, .slice A10 x.f6.f1.length c10, .int .u64 x.f7.f0, .int .u64 x.f7.f1.f0, .int .i64 x.f7.f1.f1, .int .u64 x.f7.f2, .int .u64 x.f8, .int .i64 x.f9, .int .i64 x.f10], rfl, rfl, ⟨[.bool x.f4], [.bool x.f5, .int .u64 x.f6.f0.f0, .int .u64 x.f6.f0.f1.f0, .int .i64 x.f6.f0.f1.f1, .int .u64 x.f6.f0.f2, .slice A10 x.f6.f1.length c10, .int .u64 x.f7.f0, .int .u64 x.f7.f1.f0, .int .i64 x.f7.f1.f1, .int .u64 x.f7.f2, .int .u64 x.f8, .int .i64 x.f9, .int .i64 x.f10], rfl, rfl, ⟨[.bool x.f5], [.int .u64 x.f6.f0.f0, .int .u64 x.f6.f0.f1.f0, .int .i64 x.f6.f0.f1.f1, .int .u64 x.f6.f0.f2, .slice A10 x.f6.f1.length c10, .int .u64 x.f7.f0, .int .u64 x.f7.f1.f0, .int .i64 x.f7.f1.f1, .int .u64 x.f7.f2, .int .u64 x.f8, .int .i64 x.f9, .int .i64 x.f10], rfl, rfl, ⟨[.int .u64 x.f6.f0.f0, .int .u64 x.f6.f0.f1.f0, .int .i64 x.f6.f0.f1.f1, .int .u64 x.f6.f0.f2, .slice A10 x.f6.f1.length c10], [.int .u64 x.f7.f0, .int .u64 x.f7.f1.f0, .int .i64 x.f7.f1.f1, .int .u64 x.f7.f2, .int .u64 x.f8, .int .i64 x.f9, .int .i64 x.f10], rfl, (k30_mk w x.f6 l10 g10), ⟨[.int .u64 x.f7.f0, .int .u64 x.f7.f1.f0, .int .i64 x.f7.f1.f1, .int .u64 x.f7.f2], [.int .u64 x.f8, .int .i64 x.f9, .int .i64 x.f10], rfl, (k27_mk w x.f7 ), ⟨[.int .u64 x.f8], [.int .i64 x.f9, .int .i64 x.f10], rfl, rfl, ⟨[.int .i64 x.f9], [.int .i64 x.f10], rfl, rfl, rfl⟩⟩⟩⟩⟩⟩⟩⟩⟩⟩
theorem k34_mkM (w : World) (base : Nat) (ok : Nat → Prop) (x : S34) {v10 : Value} (g10 : k27.R 27 w base ok v10 x.f6.f1) : k34.M w base ok x [.int .i64 x.f0, .string x.f1, .int .u32 x.f2, .int .u64 x.f3, .bool x.f4, .bool x.f5, .int .u64 x.f6.f0.f0, .int .u64 x.f6.f0.f1.f0, .int .i64 x.f6.f0.f1.f1, .int .u64 x.f6.f0.f2, v10, .int .u64 x.f7.f0, .int .u64 x.f7.f1.f0, .int .i64 x.f7.f1.f1, .int .u64 x.f7.f2, .int .u64 x.f8, .int .i64 x.f9, .int .i64 x.f10] := ⟨[.int .i64 x.f0], [.string x.f1, .int .u32 x.f2, .int .u64 x.f3, .bool x.f4, .bool x.f5, .int .u64 x.f6.f0.f0, .int .u64 x.f6.f0.f1.f0, .int .i64 x.f6.f0.f1.f1, .int .u64 x.f6.f0.f2, v10, .int .u64 x.f7.f0, .int .u64 x.f7.f1.f0, .int .i64 x.f7.f1.f1, .int .u64 x.f7.f2, .int .u64 x.f8, .int .i64 x.f9, .int .i64 x.f10], rfl, rfl, ⟨[.string x.f1], [.int .u32 x.f2, .int .u64 x.f3, .bool x.f4, .bool x.f5, .int .u64 x.f6.f0.f0, .int .u64 x.f6.f0.f1.f0, .int .i64 x.f6.f0.f1.f1, .int .u64 x.f6.f0.f2, v10, .int .u64 x.f7.f0, .int .u64 x.f7.f1.f0, .int .i64 x.f7.f1.f1, .int .u64 x.f7.f2, .int .u64 x.f8, .int .i64 x.f9, .int .i64 x.f10], rfl, rfl, ⟨[.int .u32 x.f2], [.int .u64 x.f3, .bool x.f4, .bool x.f5, .int .u64 x.f6.f0.f0, .int .u64 x.f6.f0.f1.f0, .int .i64 x.f6.f0.f1.f1, .int .u64 x.f6.f0.f2, v10, .int .u64 x.f7.f0, .int .u64 x.f7.f1.f0, .int .i64 x.f7.f1.f1, .int .u64 x.f7.f2, .int .u64 x.f8, .int .i64 x.f9, .int .i64 x.f10], rfl, rfl, ⟨[.int .u64 x.f3], [.bool x.f4, .bool x.f5, .int .u64 x.f6.f0.f0, .int .u64 x.f6.f0.f1.f0, .int .i64 x.f6.f0.f1.f1, .int .u64 x.f6.f0.f2, v10, .int .u64 x.f7.f0, .int .u64 x.f7.f1.f0, .int .i64 x.f7.f1.f1, .int .u64 x.f7.f2, .int .u64 x.f8, .int .i64 x.f9, .int .i64 x.f10], rfl, rfl, ⟨[.bool x.f4], [.bool x.f5, .int .u64 x.f6.f0.f0, .int .u64 x.f6.f0.f1.f0, .int .i64 x.f6.f0.f1.f1, .int .u64 x.f6.f0.f2, v10, .int .u64 x.f7.f0, .int .u64 x.f7.f1.f0, .int .i64 x.f7.f1.f1, .int .u64 x.f7.f2, .int .u64 x.f8, .int .i64 x.f9, .int .i64 x.f10], rfl, rfl, ⟨[.bool x.f5], [.int .u64 x.f6.f0.f0, .int .u64 x.f6.f0.f1.f0, .int .i64 x.f6.f0.f1.f1, .int .u64 x.f6.f0.f2, v10, .int .u64 x.f7.f0, .int .u64 x.f7.f1.f0, .int .i64 x.f7.f1.f1, .int .u64 x.f7.f2, .int .u64 x.f8, .int .i64 x.f9, .int .i64 x.f10], rfl, rfl, ⟨[.int .u64 x.f6.f0.f0, .int .u64 x.f6.f0.f1.f0, .int .i64 x.f6.f0.f1.f1, .int .u64 x.f6.f0.f2, v10], [.int .u64 x.f7.f0, .int .u64 x.f7.f1.f0, .int .i64 x.f7.f1.f1, .int .u64 x.f7.f2, .int .u64 x.f8, .int .i64 x.f9, .int .i64 x.f10], rfl, (k30_mkM w base ok x.f6 g10), ⟨[.int .u64 x.f7.f0, .int .u64 x.f7.f1.f0, .int .i64 x.f7.f1.f1, .int .u64 x.f7.f2], [.int .u64 x.f8, .int .i64 x.f9, .int .i64 x.f10], rfl, (k27_mkM w base ok x.f7 ), ⟨[.int .u64 x.f8], [.int .i64 x.f9, .int .i64 x.f10], rfl, rfl, ⟨[.int .i64 x.f9], [.int .i64 x.f10], rfl, rfl, rfl⟩⟩⟩⟩⟩⟩⟩⟩⟩⟩
def rd_T34 (xs : List S34) (i : Int) : S34 := xs.getD i.toNat z34
theorem at_T34 {w : World} {A : Option Addr} {n : Nat} {xs : List S34} (h : Kd.C k34 w A n xs) (i : Int) (h0 : 0 ≤ i) (h1 : i < n) : ∃ ad A10 c10, A = some ad ∧ w.cell? (ad.add (i.toNat * 18)) = some (.int .i64 (rd_T34 xs i).f0) ∧ w.cell? ⟨(ad.add (i.toNat * 18)).block, (ad.add (i.toNat * 18)).off + 1, none⟩ = some (.string (rd_T34 xs i).f1) ∧ w.cell? ⟨(ad.add (i.toNat * 18)).block, (ad.add (i.toNat * 18)).off + 2, none⟩ = some (.int .u32 (rd_T34 xs i).f2) ∧ w.cell? ⟨(ad.add (i.toNat * 18)).block, (ad.add (i.toNat * 18)).off + 3, none⟩ = some (.int .u64 (rd_T34 xs i).f3) ∧ w.cell? ⟨(ad.add (i.toNat * 18)).block, (ad.add (i.toNat * 18)).off + 4, none⟩ = some (.bool (rd_T34 xs i).f4) ∧ w.cell? ⟨(ad.add (i.toNat * 18)).block, (ad.add (i.toNat * 18)).off + 5, none⟩ = some (.bool (rd_T34 xs i).f5) ∧ w.cell? ⟨(ad.add (i.toNat * 18)).block, (ad.add (i.toNat * 18)).off + 6, none⟩ = some (.int .u64 (rd_T34 xs i).f6.f0.f0) ∧ w.cell? ⟨(ad.add (i.toNat * 18)).block, (ad.add (i.toNat * 18)).off + 7, none⟩ = some (.int .u64 (rd_T34 xs i).f6.f0.f1.f0) ∧ w.cell? ⟨(ad.add (i.toNat * 18)).block, (ad.add (i.toNat * 18)).off + 8, none⟩ = some (.int .i64 (rd_T34 xs i).f6.f0.f1.f1) ∧ w.cell? ⟨(ad.add (i.toNat * 18)).block, (ad.add (i.toNat * 18)).off + 9, none⟩ = some (.int .u64 (rd_T34 xs i).f6.f0.f2) ∧ w.cell? ⟨(ad.add (i.toNat * 18)).block, (ad.add (i.toNat * 18)).off + 10, none⟩ = some (.slice A10 (rd_T34 xs i).f6.f1.length c10) ∧ w.cell? ⟨(ad.add (i.toNat * 18)).block, (ad.add (i.toNat * 18)).off + 11, none⟩ = some (.int .u64 (rd_T34 xs i).f7.f0) ∧ w.cell? ⟨(ad.add (i.toNat * 18)).block, (ad.add (i.toNat * 18)).off + 12, none⟩ = some (.int .u64 (rd_T34 xs i).f7.f1.f0) ∧ w.cell? ⟨(ad.add (i.toNat * 18)).block, (ad.add (i.toNat * 18)).off + 13, none⟩ = some (.int .i64 (rd_T34 xs i).f7.f1.f1) ∧ w.cell? ⟨(ad.add (i.toNat * 18)).block, (ad.add (i.toNat * 18)).off + 14, none⟩ = some (.int .u64 (rd_T34 xs i).f7.f2) ∧ w.cell? ⟨(ad.add (i.toNat * 18)).block, (ad.add (i.toNat * 18)).off + 15, none⟩ = some (.int .u64 (rd_T34 xs i).f8) ∧ w.cell? ⟨(ad.add (i.toNat * 18)).block, (ad.add (i.toNat * 18)).off + 16, none⟩ = some (.int .i64 (rd_T34 xs i).f9) ∧ w.cell? ⟨(ad.add (i.toNat * 18)).block, (ad.add (i.toNat * 18)).off + 17, none⟩ = some (.int .i64 (rd_T34 xs i).f10) ∧ (rd_T34 xs i).f6.f1.length ≤ c10 ∧ k27.C w A10 (rd_T34 xs i).f6.f1.length (rd_T34 xs i).f6.f1 := by
  obtain ⟨ad, c, e, _, hK, hc0⟩ := Kd.C_get h z34 i h0 h1
  have hc : ∀ j u, c[j]? = some u → w.cell? (ad.add (i.toNat * 18 + j)) = some u := hc0
  obtain ⟨A10, c10, rfl, l10, g10⟩ := k34_open hK
  exact ⟨ad, A10, c10, e, hc 0 _ rfl, by rw [← add_field _ _ 1 (by omega)]; exact hc 1 _ rfl, by rw [← add_field _ _ 2 (by omega)]; exact hc 2 _ rfl, by rw [← add_field _ _ 3 (by omega)]; exact hc 3 _ rfl, by rw [← add_field _ _ 4 (by omega)]; exact hc 4 _ rfl, by rw [← add_field _ _ 5 (by omega)]; exact hc 5 _ rfl, by rw [← add_field _ _ 6 (by omega)]; exact hc 6 _ rfl, by rw [← add_field _ _ 7 (by omega)]; exact hc 7 _ rfl, by rw [← add_field _ _ 8 (by omega)]; exact hc 8 _ rfl, by rw [← add_field _ _ 9 (by omega)]; exact hc 9 _ rfl, by rw [← add_field _ _ 10 (by omega)]; exact hc 10 _ rfl, by rw [← add_field _ _ 11 (by omega)]; exact hc 11 _ rfl, by rw [← add_field _ _ 12 (by omega)]; exact hc 12 _ rfl, by rw [← add_field _ _ 13 (by omega)]; exact hc 13 _ rfl, by rw [← add_field _ _ 14 (by omega)]; exact hc 14 _ rfl, by rw [← add_field _ _ 15 (by omega)]; exact hc 15 _ rfl, by rw [← add_field _ _ 16 (by omega)]; exact hc 16 _ rfl, by rw [← add_field _ _ 17 (by omega)]; exact hc 17 _ rfl, l10, g10⟩

end Go.Proofs.Ytlkemknhmfjdpaa.P
