-- Written by our own program (wip/pr) over the kit's print.py, with contracts of our own.
import Derived.Test.YtgpldjckohlkfaaProg
import Derived.Below
import Derived.Deep.Draws
import Derived.Deep.AppendLies
import Derived.Maps.AppendAt
import Derived.OwnWalk
import Derived.Laws.BytesArg
import Derived.Laws.MakeOwn
import Derived.Laws.OwnMore
import Derived.Deep.OwnRows
import Derived.Tactics
import Derived.Lib.ConvBytes
import Derived.Laws.Slices
import Derived.WalkKit
import Derived.KernelRfl
import Derived.RowKit3
import Derived.Deep.LoopGhost
import Derived.Deep.QuietTactic
import Derived.BigQuiet
import Derived.WideLaws
import Derived.Deep.DeepCutAuto
import Derived.Deep.CutBlock
import Derived.Deep.RegionHeld3
import Derived.Laws.Rows
import Derived.Lib.AppendStr
import Derived.ArgAppend
import Derived.Laws.IdiomCopy
import Derived.OrdersHeld
import Derived.Laws.BitsLemmas
import Derived.RowKit
import Derived.Test.YtgpldjckohlkfaaWWords
import Derived.Test.YtgpldjckohlkfaaWLast
import Derived.Test.YtgpldjckohlkfaaWTab
import Derived.Test.YtgpldjckohlkfaaWFour
import Derived.Test.YtgpldjckohlkfaaWQPut
import Derived.Test.YtgpldjckohlkfaaWApart
import Derived.Test.YtgpldjckohlkfaaWArr
import Derived.Test.YtgpldjckohlkfaaWZeros
import Derived.Test.YtgpldjckohlkfaaWFoot
import Derived.Test.YtgpldjckohlkfaaWKept
import Derived.Test.YtgpldjckohlkfaaWShare
import Derived.Test.YtgpldjckohlkfaaWN
import Derived.Test.YtgpldjckohlkfaaWFootNe
import Derived.Test.YtgpldjckohlkfaaWAt
import Derived.Test.YtgpldjckohlkfaaWEqStruct
import Derived.Test.YtgpldjckohlkfaaWRepsOne
import Derived.Test.YtgpldjckohlkfaaWInv
import Derived.Test.YtgpldjckohlkfaaWInvWords
import Derived.Test.YtgpldjckohlkfaaWGuard
import Derived.Test.YtgpldjckohlkfaaWNEv
import Derived.Test.YtgpldjckohlkfaaWMore
import Derived.Test.YtgpldjckohlkfaaOv
import Derived.Test.YtgpldjckohlkfaaXtra
namespace Go.Proofs.Ytgpldjckohlkfaa.P
open Go.Proofs.YtgpldjckohlkfaaOv
open Go.RowKit Go.Proofs.YtgpldjckohlkfaaW.PrintWords Go.Proofs.YtgpldjckohlkfaaW.PrintLast Go.Proofs.YtgpldjckohlkfaaW.PrintMore
attribute [local go_sem] max2_int min2_int max_two min_two max_three min_three max_four min_four   -- for this text's walks alone
set_option linter.unusedVariables false
set_option linter.unusedSimpArgs false



def errW : Option Int → Value
  | none => .nilIface
  | some c => .iface 0 (.int .i64 c)
theorem errW_none : errW none = .nilIface := rfl
theorem errW_some (c : Int) : errW (some c) = .iface 0 (.int .i64 c) := rfl

theorem info9 : (Try.prog.info? 9).map (fun i => (i.zero, i.size, i.bytes)) = some (some (.string ⟨#[]⟩), 1, 16) := by kernel_rfl
theorem info38 : (Try.prog.info? 38).map (fun i => (i.zero, i.size, i.bytes)) = some (some (.agg #[(.int .i64 0), (.string ⟨#[]⟩), (.int .u32 0), (.int .u64 0), (.bool false), (.bool false), (.int .u64 0), (.int .u64 0), (.int .i64 0), (.int .u64 0), (.slice none 0 0), (.int .u64 0), (.int .u64 0), (.int .i64 0), (.int .u64 0), (.int .u64 0), (.int .i64 0), (.int .i64 0)]), 18, 160) := by kernel_rfl
theorem info42 : (Try.prog.info? 42).map (fun i => (i.zero, i.size, i.bytes)) = some (some (.agg #[(.int .i64 0), (.string ⟨#[]⟩), (.int .u32 0), (.int .u64 0), (.bool false), (.bool false), (.int .u64 0), (.int .u64 0), (.int .i64 0), (.int .u64 0), (.slice none 0 0), (.int .u64 0), (.int .u64 0), (.int .i64 0), (.int .u64 0), (.int .u64 0), (.int .i64 0), (.int .i64 0)]), 18, 160) := by kernel_rfl
-- the values' own types
/-! #### struct type 31 -/
structure S31 where
  f0 : Int
  f1 : Int
def z31 : S31 := ⟨(0 : Int), (0 : Int)⟩
def k31 : Kd S31 := Kd.iso (Kd.pair (Kd.int .u64) (Kd.int .i64)) (fun x : S31 => (x.f0, x.f1))
theorem k31_open {w : World} {x : S31} {cs : List Value} (h : k31.K w x cs) : cs = [.int .u64 x.f0, .int .i64 x.f1] := by
  obtain ⟨_, _, rfl, rfl, rfl⟩ := h
  exact rfl
theorem k31_openM {w : World} {base : Nat} {ok : Nat → Prop} {x : S31} {cs : List Value} (h : k31.M w base ok x cs) : cs = [.int .u64 x.f0, .int .i64 x.f1] := by
  obtain ⟨_, _, rfl, rfl, rfl⟩ := h
  exact rfl
theorem k31_mk (w : World) (x : S31)  : k31.K w x [.int .u64 x.f0, .int .i64 x.f1] := ⟨[.int .u64 x.f0], [.int .i64 x.f1], rfl, rfl, rfl⟩
theorem k31_mkM (w : World) (base : Nat) (ok : Nat → Prop) (x : S31)  : k31.M w base ok x [.int .u64 x.f0, .int .i64 x.f1] := ⟨[.int .u64 x.f0], [.int .i64 x.f1], rfl, rfl, rfl⟩
def rd_T31 (xs : List S31) (i : Int) : S31 := xs.getD i.toNat z31
theorem at_T31 {w : World} {A : Option Addr} {n : Nat} {xs : List S31} (h : Kd.C k31 w A n xs) (i : Int) (h0 : 0 ≤ i) (h1 : i < n) : ∃ ad , A = some ad ∧ w.cell? (ad.add (i.toNat * 2)) = some (.int .u64 (rd_T31 xs i).f0) ∧ w.cell? ⟨(ad.add (i.toNat * 2)).block, (ad.add (i.toNat * 2)).off + 1, none⟩ = some (.int .i64 (rd_T31 xs i).f1) := by
  obtain ⟨ad, c, e, _, hK, hc0⟩ := Kd.C_get h z31 i h0 h1
  have hc : ∀ j u, c[j]? = some u → w.cell? (ad.add (i.toNat * 2 + j)) = some u := hc0
  obtain rfl := k31_open hK
  exact ⟨ad, e, hc 0 _ rfl, by rw [← add_field _ _ 1 (by omega)]; exact hc 1 _ rfl⟩

/-! #### struct type 33 -/
structure S33 where
  f0 : Int
  f1 : S31
  f2 : Int
def z33 : S33 := ⟨(0 : Int), z31, (0 : Int)⟩
def k33 : Kd S33 := Kd.iso (Kd.pair (Kd.int .u64) (Kd.pair k31 (Kd.int .u64))) (fun x : S33 => (x.f0, x.f1, x.f2))
theorem k33_open {w : World} {x : S33} {cs : List Value} (h : k33.K w x cs) : cs = [.int .u64 x.f0, .int .u64 x.f1.f0, .int .i64 x.f1.f1, .int .u64 x.f2] := by
  obtain ⟨_, _, rfl, rfl, ⟨_, _, rfl, s1, rfl⟩⟩ := h
  obtain rfl := k31_open s1
  exact rfl
theorem k33_openM {w : World} {base : Nat} {ok : Nat → Prop} {x : S33} {cs : List Value} (h : k33.M w base ok x cs) : cs = [.int .u64 x.f0, .int .u64 x.f1.f0, .int .i64 x.f1.f1, .int .u64 x.f2] := by
  obtain ⟨_, _, rfl, rfl, ⟨_, _, rfl, s1, rfl⟩⟩ := h
  obtain rfl := k31_openM s1
  exact rfl
theorem k33_mk (w : World) (x : S33)  : k33.K w x [.int .u64 x.f0, .int .u64 x.f1.f0, .int .i64 x.f1.f1, .int .u64 x.f2] := ⟨[.int .u64 x.f0], [.int .u64 x.f1.f0, .int .i64 x.f1.f1, .int .u64 x.f2], rfl, rfl, ⟨[.int .u64 x.f1.f0, .int .i64 x.f1.f1], [.int .u64 x.f2], rfl, (k31_mk w x.f1 ), rfl⟩⟩
theorem k33_mkM (w : World) (base : Nat) (ok : Nat → Prop) (x : S33)  : k33.M w base ok x [.int .u64 x.f0, .int .u64 x.f1.f0, .int .i64 x.f1.f1, .int .u64 x.f2] := ⟨[.int .u64 x.f0], [.int .u64 x.f1.f0, .int .i64 x.f1.f1, .int .u64 x.f2], rfl, rfl, ⟨[.int .u64 x.f1.f0, .int .i64 x.f1.f1], [.int .u64 x.f2], rfl, (k31_mkM w base ok x.f1 ), rfl⟩⟩
def rd_T33 (xs : List S33) (i : Int) : S33 := xs.getD i.toNat z33
theorem at_T33 {w : World} {A : Option Addr} {n : Nat} {xs : List S33} (h : Kd.C k33 w A n xs) (i : Int) (h0 : 0 ≤ i) (h1 : i < n) : ∃ ad , A = some ad ∧ w.cell? (ad.add (i.toNat * 4)) = some (.int .u64 (rd_T33 xs i).f0) ∧ w.cell? ⟨(ad.add (i.toNat * 4)).block, (ad.add (i.toNat * 4)).off + 1, none⟩ = some (.int .u64 (rd_T33 xs i).f1.f0) ∧ w.cell? ⟨(ad.add (i.toNat * 4)).block, (ad.add (i.toNat * 4)).off + 2, none⟩ = some (.int .i64 (rd_T33 xs i).f1.f1) ∧ w.cell? ⟨(ad.add (i.toNat * 4)).block, (ad.add (i.toNat * 4)).off + 3, none⟩ = some (.int .u64 (rd_T33 xs i).f2) := by
  obtain ⟨ad, c, e, _, hK, hc0⟩ := Kd.C_get h z33 i h0 h1
  have hc : ∀ j u, c[j]? = some u → w.cell? (ad.add (i.toNat * 4 + j)) = some u := hc0
  obtain rfl := k33_open hK
  exact ⟨ad, e, hc 0 _ rfl, by rw [← add_field _ _ 1 (by omega)]; exact hc 1 _ rfl, by rw [← add_field _ _ 2 (by omega)]; exact hc 2 _ rfl, by rw [← add_field _ _ 3 (by omega)]; exact hc 3 _ rfl⟩

/-! #### struct type 40 -/
structure S40 where
  f0 : S33
  f1 : OV
def z40 : S40 := ⟨z33, OV.nil⟩
def k40 : Kd S40 := Kd.iso (Kd.pair k33 kdOV) (fun x : S40 => (x.f0, x.f1))
theorem k40_open {w : World} {x : S40} {cs : List Value} (h : k40.K w x cs) : cs = [.int .u64 x.f0.f0, .int .u64 x.f0.f1.f0, .int .i64 x.f0.f1.f1, .int .u64 x.f0.f2, .slice x.f1.A x.f1.n x.f1.c] := by
  obtain ⟨_, _, rfl, s0, rfl⟩ := h
  obtain rfl := k33_open s0
  exact rfl
theorem k40_openM {w : World} {base : Nat} {ok : Nat → Prop} {x : S40} {cs : List Value} (h : k40.M w base ok x cs) : cs = [.int .u64 x.f0.f0, .int .u64 x.f0.f1.f0, .int .i64 x.f0.f1.f1, .int .u64 x.f0.f2, .slice x.f1.A x.f1.n x.f1.c] := by
  obtain ⟨_, _, rfl, s0, rfl⟩ := h
  obtain rfl := k33_openM s0
  exact rfl
theorem k40_mk (w : World) (x : S40)  : k40.K w x [.int .u64 x.f0.f0, .int .u64 x.f0.f1.f0, .int .i64 x.f0.f1.f1, .int .u64 x.f0.f2, .slice x.f1.A x.f1.n x.f1.c] := ⟨[.int .u64 x.f0.f0, .int .u64 x.f0.f1.f0, .int .i64 x.f0.f1.f1, .int .u64 x.f0.f2], [.slice x.f1.A x.f1.n x.f1.c], rfl, (k33_mk w x.f0 ), rfl⟩
theorem k40_mkM (w : World) (base : Nat) (ok : Nat → Prop) (x : S40)  : k40.M w base ok x [.int .u64 x.f0.f0, .int .u64 x.f0.f1.f0, .int .i64 x.f0.f1.f1, .int .u64 x.f0.f2, .slice x.f1.A x.f1.n x.f1.c] := ⟨[.int .u64 x.f0.f0, .int .u64 x.f0.f1.f0, .int .i64 x.f0.f1.f1, .int .u64 x.f0.f2], [.slice x.f1.A x.f1.n x.f1.c], rfl, (k33_mkM w base ok x.f0 ), rfl⟩
def rd_T40 (xs : List S40) (i : Int) : S40 := xs.getD i.toNat z40
theorem at_T40 {w : World} {A : Option Addr} {n : Nat} {xs : List S40} (h : Kd.C k40 w A n xs) (i : Int) (h0 : 0 ≤ i) (h1 : i < n) : ∃ ad , A = some ad ∧ w.cell? (ad.add (i.toNat * 5)) = some (.int .u64 (rd_T40 xs i).f0.f0) ∧ w.cell? ⟨(ad.add (i.toNat * 5)).block, (ad.add (i.toNat * 5)).off + 1, none⟩ = some (.int .u64 (rd_T40 xs i).f0.f1.f0) ∧ w.cell? ⟨(ad.add (i.toNat * 5)).block, (ad.add (i.toNat * 5)).off + 2, none⟩ = some (.int .i64 (rd_T40 xs i).f0.f1.f1) ∧ w.cell? ⟨(ad.add (i.toNat * 5)).block, (ad.add (i.toNat * 5)).off + 3, none⟩ = some (.int .u64 (rd_T40 xs i).f0.f2) ∧ w.cell? ⟨(ad.add (i.toNat * 5)).block, (ad.add (i.toNat * 5)).off + 4, none⟩ = some (.slice (rd_T40 xs i).f1.A (rd_T40 xs i).f1.n (rd_T40 xs i).f1.c) := by
  obtain ⟨ad, c, e, _, hK, hc0⟩ := Kd.C_get h z40 i h0 h1
  have hc : ∀ j u, c[j]? = some u → w.cell? (ad.add (i.toNat * 5 + j)) = some u := hc0
  obtain rfl := k40_open hK
  exact ⟨ad, e, hc 0 _ rfl, by rw [← add_field _ _ 1 (by omega)]; exact hc 1 _ rfl, by rw [← add_field _ _ 2 (by omega)]; exact hc 2 _ rfl, by rw [← add_field _ _ 3 (by omega)]; exact hc 3 _ rfl, by rw [← add_field _ _ 4 (by omega)]; exact hc 4 _ rfl⟩

/-! #### struct type 42 -/
structure S42 where
  f0 : Int
  f1 : ByteArray
  f2 : Int
  f3 : Int
  f4 : Bool
  f5 : Bool
  f6 : S40
  f7 : S33
  f8 : Int
  f9 : Int
  f10 : Int
def z42 : S42 := ⟨(0 : Int), (⟨#[]⟩ : ByteArray), (0 : Int), (0 : Int), false, false, z40, z33, (0 : Int), (0 : Int), (0 : Int)⟩
def k42 : Kd S42 := Kd.iso (Kd.pair (Kd.int .i64) (Kd.pair Kd.string (Kd.pair (Kd.int .u32) (Kd.pair (Kd.int .u64) (Kd.pair Kd.bool (Kd.pair Kd.bool (Kd.pair k40 (Kd.pair k33 (Kd.pair (Kd.int .u64) (Kd.pair (Kd.int .i64) (Kd.int .i64))))))))))) (fun x : S42 => (x.f0, x.f1, x.f2, x.f3, x.f4, x.f5, x.f6, x.f7, x.f8, x.f9, x.f10))
theorem k42_open {w : World} {x : S42} {cs : List Value} (h : k42.K w x cs) : cs = [.int .i64 x.f0, .string x.f1, .int .u32 x.f2, .int .u64 x.f3, .bool x.f4, .bool x.f5, .int .u64 x.f6.f0.f0, .int .u64 x.f6.f0.f1.f0, .int .i64 x.f6.f0.f1.f1, .int .u64 x.f6.f0.f2, .slice x.f6.f1.A x.f6.f1.n x.f6.f1.c, .int .u64 x.f7.f0, .int .u64 x.f7.f1.f0, .int .i64 x.f7.f1.f1, .int .u64 x.f7.f2, .int .u64 x.f8, .int .i64 x.f9, .int .i64 x.f10] := by
  obtain ⟨_, _, rfl, rfl, ⟨_, _, rfl, rfl, ⟨_, _, rfl, rfl, ⟨_, _, rfl, rfl, ⟨_, _, rfl, rfl, ⟨_, _, rfl, rfl, ⟨_, _, rfl, s6, ⟨_, _, rfl, s11, ⟨_, _, rfl, rfl, ⟨_, _, rfl, rfl, rfl⟩⟩⟩⟩⟩⟩⟩⟩⟩⟩ := h
  obtain rfl := k40_open s6
  obtain rfl := k33_open s11
  exact rfl
theorem k42_openM {w : World} {base : Nat} {ok : Nat → Prop} {x : S42} {cs : List Value} (h : k42.M w base ok x cs) : cs = [.int .i64 x.f0, .string x.f1, .int .u32 x.f2, .int .u64 x.f3, .bool x.f4, .bool x.f5, .int .u64 x.f6.f0.f0, .int .u64 x.f6.f0.f1.f0, .int .i64 x.f6.f0.f1.f1, .int .u64 x.f6.f0.f2, .slice x.f6.f1.A x.f6.f1.n x.f6.f1.c, .int .u64 x.f7.f0, .int .u64 x.f7.f1.f0, .int .i64 x.f7.f1.f1, .int .u64 x.f7.f2, .int .u64 x.f8, .int .i64 x.f9, .int .i64 x.f10] := by
  obtain ⟨_, _, rfl, rfl, ⟨_, _, rfl, rfl, ⟨_, _, rfl, rfl, ⟨_, _, rfl, rfl, ⟨_, _, rfl, rfl, ⟨_, _, rfl, rfl, ⟨_, _, rfl, s6, ⟨_, _, rfl, s11, ⟨_, _, rfl, rfl, ⟨_, _, rfl, rfl, rfl⟩⟩⟩⟩⟩⟩⟩⟩⟩⟩ := h
  obtain rfl := k40_openM s6
  obtain rfl := k33_openM s11
  exact rfl
theorem k42_mk (w : World) (x : S42)  : k42.K w x [.int .i64 x.f0, .string x.f1, .int .u32 x.f2, .int .u64 x.f3, .bool x.f4, .bool x.f5, .int .u64 x.f6.f0.f0, .int .u64 x.f6.f0.f1.f0, .int .i64 x.f6.f0.f1.f1, .int .u64 x.f6.f0.f2, .slice x.f6.f1.A x.f6.f1.n x.f6.f1.c, .int .u64 x.f7.f0, .int .u64 x.f7.f1.f0, .int .i64 x.f7.f1.f1, .int .u64 x.f7.f2, .int .u64 x.f8, .int .i64 x.f9, .int .i64 x.f10] := ⟨[.int .i64 x.f0], [.string x.f1, .int .u32 x.f2, .int .u64 x.f3, .bool x.f4, .bool x.f5, .int .u64 x.f6.f0.f0, .int .u64 x.f6.f0.f1.f0, .int .i64 x.f6.f0.f1.f1, .int .u64 x.f6.f0.f2, .slice x.f6.f1.A x.f6.f1.n x.f6.f1.c, .int .u64 x.f7.f0, .int .u64 x.f7.f1.f0, .int .i64 x.f7.f1.f1, .int .u64 x.f7.f2, .int .u64 x.f8, .int .i64 x.f9, .int .i64 x.f10], rfl, rfl, ⟨[.string x.f1], [.int .u32 x.f2, .int .u64 x.f3, .bool x.f4, .bool x.f5, .int .u64 x.f6.f0.f0, .int .u64 x.f6.f0.f1.f0, .int .i64 x.f6.f0.f1.f1, .int .u64 x.f6.f0.f2, .slice x.f6.f1.A x.f6.f1.n x.f6.f1.c, .int .u64 x.f7.f0, .int .u64 x.f7.f1.f0, .int .i64 x.f7.f1.f1, .int .u64 x.f7.f2, .int .u64 x.f8, .int .i64 x.f9, .int .i64 x.f10], rfl, rfl, ⟨[.int .u32 x.f2], [.int .u64 x.f3, .bool x.f4, .bool x.f5, .int .u64 x.f6.f0.f0, .int .u64 x.f6.f0.f1.f0, .int .i64 x.f6.f0.f1.f1, .int .u64 x.f6.f0.f2, .slice x.f6.f1.A x.f6.f1.n x.f6.f1.c, .int .u64 x.f7.f0, .int .u64 x.f7.f1.f0, .int .i64 x.f7.f1.f1, .int .u64 x.f7.f2, .int .u64 x.f8, .int .i64 x.f9, .int .i64 x.f10], rfl, rfl, ⟨[.int .u64 x.f3], [.bool x.f4, .bool x.f5, .int .u64 x.f6.f0.f0, .int .u64 x.f6.f0.f1.f0, .int .i64 x.f6.f0.f1.f1, .int .u64 x.f6.f0.f2, .slice x.f6.f1.A x.f6.f1.n x.f6.f1.c, .int .u64 x.f7.f0, .int .u64 x.f7.f1.f0, .int .i64 x.f7.f1.f1, .int .u64 x.f7.f2, .int .u64 x.f8, .int .i64 x.f9, .int .i64 x.f10], rfl, rfl, ⟨[.bool x.f4], [.bool x.f5, .int .u64 x.f6.f0.f0, .int .u64 x.f6.f0.f1.f0, .int .i64 x.f6.f0.f1.f1, .int .u64 x.f6.f0.f2, .slice x.f6.f1.A x.f6.f1.n x.f6.f1.c, .int .u64 x.f7.f0, .int .u64 x.f7.f1.f0, .int .i64 x.f7.f1.f1, .int .u64 x.f7.f2, .int .u64 x.f8, .int .i64 x.f9, .int .i64 x.f10], rfl, rfl, ⟨[.bool x.f5], [.int .u64 x.f6.f0.f0, .int .u64 x.f6.f0.f1.f0, .int .i64 x.f6.f0.f1.f1, .int .u64 x.f6.f0.f2, .slice x.f6.f1.A x.f6.f1.n x.f6.f1.c, .int .u64 x.f7.f0, .int .u64 x.f7.f1.f0, .int .i64 x.f7.f1.f1, .int .u64 x.f7.f2, .int .u64 x.f8, .int .i64 x.f9, .int .i64 x.f10], rfl, rfl, ⟨[.int .u64 x.f6.f0.f0, .int .u64 x.f6.f0.f1.f0, .int .i64 x.f6.f0.f1.f1, .int .u64 x.f6.f0.f2, .slice x.f6.f1.A x.f6.f1.n x.f6.f1.c], [.int .u64 x.f7.f0, .int .u64 x.f7.f1.f0, .int .i64 x.f7.f1.f1, .int .u64 x.f7.f2, .int .u64 x.f8, .int .i64 x.f9, .int .i64 x.f10], rfl, (k40_mk w x.f6 ), ⟨[.int .u64 x.f7.f0, .int .u64 x.f7.f1.f0, .int .i64 x.f7.f1.f1, .int .u64 x.f7.f2], [.int .u64 x.f8, .int .i64 x.f9, .int .i64 x.f10], rfl, (k33_mk w x.f7 ), ⟨[.int .u64 x.f8], [.int .i64 x.f9, .int .i64 x.f10], rfl, rfl, ⟨[.int .i64 x.f9], [.int .i64 x.f10], rfl, rfl, rfl⟩⟩⟩⟩⟩⟩⟩⟩⟩⟩
theorem k42_mkM (w : World) (base : Nat) (ok : Nat → Prop) (x : S42)  : k42.M w base ok x [.int .i64 x.f0, .string x.f1, .int .u32 x.f2, .int .u64 x.f3, .bool x.f4, .bool x.f5, .int .u64 x.f6.f0.f0, .int .u64 x.f6.f0.f1.f0, .int .i64 x.f6.f0.f1.f1, .int .u64 x.f6.f0.f2, .slice x.f6.f1.A x.f6.f1.n x.f6.f1.c, .int .u64 x.f7.f0, .int .u64 x.f7.f1.f0, .int .i64 x.f7.f1.f1, .int .u64 x.f7.f2, .int .u64 x.f8, .int .i64 x.f9, .int .i64 x.f10] := ⟨[.int .i64 x.f0], [.string x.f1, .int .u32 x.f2, .int .u64 x.f3, .bool x.f4, .bool x.f5, .int .u64 x.f6.f0.f0, .int .u64 x.f6.f0.f1.f0, .int .i64 x.f6.f0.f1.f1, .int .u64 x.f6.f0.f2, .slice x.f6.f1.A x.f6.f1.n x.f6.f1.c, .int .u64 x.f7.f0, .int .u64 x.f7.f1.f0, .int .i64 x.f7.f1.f1, .int .u64 x.f7.f2, .int .u64 x.f8, .int .i64 x.f9, .int .i64 x.f10], rfl, rfl, ⟨[.string x.f1], [.int .u32 x.f2, .int .u64 x.f3, .bool x.f4, .bool x.f5, .int .u64 x.f6.f0.f0, .int .u64 x.f6.f0.f1.f0, .int .i64 x.f6.f0.f1.f1, .int .u64 x.f6.f0.f2, .slice x.f6.f1.A x.f6.f1.n x.f6.f1.c, .int .u64 x.f7.f0, .int .u64 x.f7.f1.f0, .int .i64 x.f7.f1.f1, .int .u64 x.f7.f2, .int .u64 x.f8, .int .i64 x.f9, .int .i64 x.f10], rfl, rfl, ⟨[.int .u32 x.f2], [.int .u64 x.f3, .bool x.f4, .bool x.f5, .int .u64 x.f6.f0.f0, .int .u64 x.f6.f0.f1.f0, .int .i64 x.f6.f0.f1.f1, .int .u64 x.f6.f0.f2, .slice x.f6.f1.A x.f6.f1.n x.f6.f1.c, .int .u64 x.f7.f0, .int .u64 x.f7.f1.f0, .int .i64 x.f7.f1.f1, .int .u64 x.f7.f2, .int .u64 x.f8, .int .i64 x.f9, .int .i64 x.f10], rfl, rfl, ⟨[.int .u64 x.f3], [.bool x.f4, .bool x.f5, .int .u64 x.f6.f0.f0, .int .u64 x.f6.f0.f1.f0, .int .i64 x.f6.f0.f1.f1, .int .u64 x.f6.f0.f2, .slice x.f6.f1.A x.f6.f1.n x.f6.f1.c, .int .u64 x.f7.f0, .int .u64 x.f7.f1.f0, .int .i64 x.f7.f1.f1, .int .u64 x.f7.f2, .int .u64 x.f8, .int .i64 x.f9, .int .i64 x.f10], rfl, rfl, ⟨[.bool x.f4], [.bool x.f5, .int .u64 x.f6.f0.f0, .int .u64 x.f6.f0.f1.f0, .int .i64 x.f6.f0.f1.f1, .int .u64 x.f6.f0.f2, .slice x.f6.f1.A x.f6.f1.n x.f6.f1.c, .int .u64 x.f7.f0, .int .u64 x.f7.f1.f0, .int .i64 x.f7.f1.f1, .int .u64 x.f7.f2, .int .u64 x.f8, .int .i64 x.f9, .int .i64 x.f10], rfl, rfl, ⟨[.bool x.f5], [.int .u64 x.f6.f0.f0, .int .u64 x.f6.f0.f1.f0, .int .i64 x.f6.f0.f1.f1, .int .u64 x.f6.f0.f2, .slice x.f6.f1.A x.f6.f1.n x.f6.f1.c, .int .u64 x.f7.f0, .int .u64 x.f7.f1.f0, .int .i64 x.f7.f1.f1, .int .u64 x.f7.f2, .int .u64 x.f8, .int .i64 x.f9, .int .i64 x.f10], rfl, rfl, ⟨[.int .u64 x.f6.f0.f0, .int .u64 x.f6.f0.f1.f0, .int .i64 x.f6.f0.f1.f1, .int .u64 x.f6.f0.f2, .slice x.f6.f1.A x.f6.f1.n x.f6.f1.c], [.int .u64 x.f7.f0, .int .u64 x.f7.f1.f0, .int .i64 x.f7.f1.f1, .int .u64 x.f7.f2, .int .u64 x.f8, .int .i64 x.f9, .int .i64 x.f10], rfl, (k40_mkM w base ok x.f6 ), ⟨[.int .u64 x.f7.f0, .int .u64 x.f7.f1.f0, .int .i64 x.f7.f1.f1, .int .u64 x.f7.f2], [.int .u64 x.f8, .int .i64 x.f9, .int .i64 x.f10], rfl, (k33_mkM w base ok x.f7 ), ⟨[.int .u64 x.f8], [.int .i64 x.f9, .int .i64 x.f10], rfl, rfl, ⟨[.int .i64 x.f9], [.int .i64 x.f10], rfl, rfl, rfl⟩⟩⟩⟩⟩⟩⟩⟩⟩⟩
def rd_T42 (xs : List S42) (i : Int) : S42 := xs.getD i.toNat z42
theorem at_T42 {w : World} {A : Option Addr} {n : Nat} {xs : List S42} (h : Kd.C k42 w A n xs) (i : Int) (h0 : 0 ≤ i) (h1 : i < n) : ∃ ad , A = some ad ∧ w.cell? (ad.add (i.toNat * 18)) = some (.int .i64 (rd_T42 xs i).f0) ∧ w.cell? ⟨(ad.add (i.toNat * 18)).block, (ad.add (i.toNat * 18)).off + 1, none⟩ = some (.string (rd_T42 xs i).f1) ∧ w.cell? ⟨(ad.add (i.toNat * 18)).block, (ad.add (i.toNat * 18)).off + 2, none⟩ = some (.int .u32 (rd_T42 xs i).f2) ∧ w.cell? ⟨(ad.add (i.toNat * 18)).block, (ad.add (i.toNat * 18)).off + 3, none⟩ = some (.int .u64 (rd_T42 xs i).f3) ∧ w.cell? ⟨(ad.add (i.toNat * 18)).block, (ad.add (i.toNat * 18)).off + 4, none⟩ = some (.bool (rd_T42 xs i).f4) ∧ w.cell? ⟨(ad.add (i.toNat * 18)).block, (ad.add (i.toNat * 18)).off + 5, none⟩ = some (.bool (rd_T42 xs i).f5) ∧ w.cell? ⟨(ad.add (i.toNat * 18)).block, (ad.add (i.toNat * 18)).off + 6, none⟩ = some (.int .u64 (rd_T42 xs i).f6.f0.f0) ∧ w.cell? ⟨(ad.add (i.toNat * 18)).block, (ad.add (i.toNat * 18)).off + 7, none⟩ = some (.int .u64 (rd_T42 xs i).f6.f0.f1.f0) ∧ w.cell? ⟨(ad.add (i.toNat * 18)).block, (ad.add (i.toNat * 18)).off + 8, none⟩ = some (.int .i64 (rd_T42 xs i).f6.f0.f1.f1) ∧ w.cell? ⟨(ad.add (i.toNat * 18)).block, (ad.add (i.toNat * 18)).off + 9, none⟩ = some (.int .u64 (rd_T42 xs i).f6.f0.f2) ∧ w.cell? ⟨(ad.add (i.toNat * 18)).block, (ad.add (i.toNat * 18)).off + 10, none⟩ = some (.slice (rd_T42 xs i).f6.f1.A (rd_T42 xs i).f6.f1.n (rd_T42 xs i).f6.f1.c) ∧ w.cell? ⟨(ad.add (i.toNat * 18)).block, (ad.add (i.toNat * 18)).off + 11, none⟩ = some (.int .u64 (rd_T42 xs i).f7.f0) ∧ w.cell? ⟨(ad.add (i.toNat * 18)).block, (ad.add (i.toNat * 18)).off + 12, none⟩ = some (.int .u64 (rd_T42 xs i).f7.f1.f0) ∧ w.cell? ⟨(ad.add (i.toNat * 18)).block, (ad.add (i.toNat * 18)).off + 13, none⟩ = some (.int .i64 (rd_T42 xs i).f7.f1.f1) ∧ w.cell? ⟨(ad.add (i.toNat * 18)).block, (ad.add (i.toNat * 18)).off + 14, none⟩ = some (.int .u64 (rd_T42 xs i).f7.f2) ∧ w.cell? ⟨(ad.add (i.toNat * 18)).block, (ad.add (i.toNat * 18)).off + 15, none⟩ = some (.int .u64 (rd_T42 xs i).f8) ∧ w.cell? ⟨(ad.add (i.toNat * 18)).block, (ad.add (i.toNat * 18)).off + 16, none⟩ = some (.int .i64 (rd_T42 xs i).f9) ∧ w.cell? ⟨(ad.add (i.toNat * 18)).block, (ad.add (i.toNat * 18)).off + 17, none⟩ = some (.int .i64 (rd_T42 xs i).f10) := by
  obtain ⟨ad, c, e, _, hK, hc0⟩ := Kd.C_get h z42 i h0 h1
  have hc : ∀ j u, c[j]? = some u → w.cell? (ad.add (i.toNat * 18 + j)) = some u := hc0
  obtain rfl := k42_open hK
  exact ⟨ad, e, hc 0 _ rfl, by rw [← add_field _ _ 1 (by omega)]; exact hc 1 _ rfl, by rw [← add_field _ _ 2 (by omega)]; exact hc 2 _ rfl, by rw [← add_field _ _ 3 (by omega)]; exact hc 3 _ rfl, by rw [← add_field _ _ 4 (by omega)]; exact hc 4 _ rfl, by rw [← add_field _ _ 5 (by omega)]; exact hc 5 _ rfl, by rw [← add_field _ _ 6 (by omega)]; exact hc 6 _ rfl, by rw [← add_field _ _ 7 (by omega)]; exact hc 7 _ rfl, by rw [← add_field _ _ 8 (by omega)]; exact hc 8 _ rfl, by rw [← add_field _ _ 9 (by omega)]; exact hc 9 _ rfl, by rw [← add_field _ _ 10 (by omega)]; exact hc 10 _ rfl, by rw [← add_field _ _ 11 (by omega)]; exact hc 11 _ rfl, by rw [← add_field _ _ 12 (by omega)]; exact hc 12 _ rfl, by rw [← add_field _ _ 13 (by omega)]; exact hc 13 _ rfl, by rw [← add_field _ _ 14 (by omega)]; exact hc 14 _ rfl, by rw [← add_field _ _ 15 (by omega)]; exact hc 15 _ rfl, by rw [← add_field _ _ 16 (by omega)]; exact hc 16 _ rfl, by rw [← add_field _ _ 17 (by omega)]; exact hc 17 _ rfl⟩

/-! #### struct type 36 -/
structure S36 where
  f0 : S33
  f1 : OV
def z36 : S36 := ⟨z33, OV.nil⟩
def k36 : Kd S36 := Kd.iso (Kd.pair k33 kdOV) (fun x : S36 => (x.f0, x.f1))
theorem k36_open {w : World} {x : S36} {cs : List Value} (h : k36.K w x cs) : cs = [.int .u64 x.f0.f0, .int .u64 x.f0.f1.f0, .int .i64 x.f0.f1.f1, .int .u64 x.f0.f2, .slice x.f1.A x.f1.n x.f1.c] := by
  obtain ⟨_, _, rfl, s0, rfl⟩ := h
  obtain rfl := k33_open s0
  exact rfl
theorem k36_openM {w : World} {base : Nat} {ok : Nat → Prop} {x : S36} {cs : List Value} (h : k36.M w base ok x cs) : cs = [.int .u64 x.f0.f0, .int .u64 x.f0.f1.f0, .int .i64 x.f0.f1.f1, .int .u64 x.f0.f2, .slice x.f1.A x.f1.n x.f1.c] := by
  obtain ⟨_, _, rfl, s0, rfl⟩ := h
  obtain rfl := k33_openM s0
  exact rfl
theorem k36_mk (w : World) (x : S36)  : k36.K w x [.int .u64 x.f0.f0, .int .u64 x.f0.f1.f0, .int .i64 x.f0.f1.f1, .int .u64 x.f0.f2, .slice x.f1.A x.f1.n x.f1.c] := ⟨[.int .u64 x.f0.f0, .int .u64 x.f0.f1.f0, .int .i64 x.f0.f1.f1, .int .u64 x.f0.f2], [.slice x.f1.A x.f1.n x.f1.c], rfl, (k33_mk w x.f0 ), rfl⟩
theorem k36_mkM (w : World) (base : Nat) (ok : Nat → Prop) (x : S36)  : k36.M w base ok x [.int .u64 x.f0.f0, .int .u64 x.f0.f1.f0, .int .i64 x.f0.f1.f1, .int .u64 x.f0.f2, .slice x.f1.A x.f1.n x.f1.c] := ⟨[.int .u64 x.f0.f0, .int .u64 x.f0.f1.f0, .int .i64 x.f0.f1.f1, .int .u64 x.f0.f2], [.slice x.f1.A x.f1.n x.f1.c], rfl, (k33_mkM w base ok x.f0 ), rfl⟩
def rd_T36 (xs : List S36) (i : Int) : S36 := xs.getD i.toNat z36
theorem at_T36 {w : World} {A : Option Addr} {n : Nat} {xs : List S36} (h : Kd.C k36 w A n xs) (i : Int) (h0 : 0 ≤ i) (h1 : i < n) : ∃ ad , A = some ad ∧ w.cell? (ad.add (i.toNat * 5)) = some (.int .u64 (rd_T36 xs i).f0.f0) ∧ w.cell? ⟨(ad.add (i.toNat * 5)).block, (ad.add (i.toNat * 5)).off + 1, none⟩ = some (.int .u64 (rd_T36 xs i).f0.f1.f0) ∧ w.cell? ⟨(ad.add (i.toNat * 5)).block, (ad.add (i.toNat * 5)).off + 2, none⟩ = some (.int .i64 (rd_T36 xs i).f0.f1.f1) ∧ w.cell? ⟨(ad.add (i.toNat * 5)).block, (ad.add (i.toNat * 5)).off + 3, none⟩ = some (.int .u64 (rd_T36 xs i).f0.f2) ∧ w.cell? ⟨(ad.add (i.toNat * 5)).block, (ad.add (i.toNat * 5)).off + 4, none⟩ = some (.slice (rd_T36 xs i).f1.A (rd_T36 xs i).f1.n (rd_T36 xs i).f1.c) := by
  obtain ⟨ad, c, e, _, hK, hc0⟩ := Kd.C_get h z36 i h0 h1
  have hc : ∀ j u, c[j]? = some u → w.cell? (ad.add (i.toNat * 5 + j)) = some u := hc0
  obtain rfl := k36_open hK
  exact ⟨ad, e, hc 0 _ rfl, by rw [← add_field _ _ 1 (by omega)]; exact hc 1 _ rfl, by rw [← add_field _ _ 2 (by omega)]; exact hc 2 _ rfl, by rw [← add_field _ _ 3 (by omega)]; exact hc 3 _ rfl, by rw [← add_field _ _ 4 (by omega)]; exact hc 4 _ rfl⟩

/-! #### struct type 38 -/
structure S38 where
  f0 : Int
  f1 : ByteArray
  f2 : Int
  f3 : Int
  f4 : Bool
  f5 : Bool
  f6 : S36
  f7 : S33
  f8 : Int
  f9 : Int
  f10 : Int
def z38 : S38 := ⟨(0 : Int), (⟨#[]⟩ : ByteArray), (0 : Int), (0 : Int), false, false, z36, z33, (0 : Int), (0 : Int), (0 : Int)⟩
def k38 : Kd S38 := Kd.iso (Kd.pair (Kd.int .i64) (Kd.pair Kd.string (Kd.pair (Kd.int .u32) (Kd.pair (Kd.int .u64) (Kd.pair Kd.bool (Kd.pair Kd.bool (Kd.pair k36 (Kd.pair k33 (Kd.pair (Kd.int .u64) (Kd.pair (Kd.int .i64) (Kd.int .i64))))))))))) (fun x : S38 => (x.f0, x.f1, x.f2, x.f3, x.f4, x.f5, x.f6, x.f7, x.f8, x.f9, x.f10))
theorem k38_open {w : World} {x : S38} {cs : List Value} (h : k38.K w x cs) : cs = [.int .i64 x.f0, .string x.f1, .int .u32 x.f2, .int .u64 x.f3, .bool x.f4, .bool x.f5, .int .u64 x.f6.f0.f0, .int .u64 x.f6.f0.f1.f0, .int .i64 x.f6.f0.f1.f1, .int .u64 x.f6.f0.f2, .slice x.f6.f1.A x.f6.f1.n x.f6.f1.c, .int .u64 x.f7.f0, .int .u64 x.f7.f1.f0, .int .i64 x.f7.f1.f1, .int .u64 x.f7.f2, .int .u64 x.f8, .int .i64 x.f9, .int .i64 x.f10] := by
  obtain ⟨_, _, rfl, rfl, ⟨_, _, rfl, rfl, ⟨_, _, rfl, rfl, ⟨_, _, rfl, rfl, ⟨_, _, rfl, rfl, ⟨_, _, rfl, rfl, ⟨_, _, rfl, s6, ⟨_, _, rfl, s11, ⟨_, _, rfl, rfl, ⟨_, _, rfl, rfl, rfl⟩⟩⟩⟩⟩⟩⟩⟩⟩⟩ := h
  obtain rfl := k36_open s6
  obtain rfl := k33_open s11
  exact rfl
theorem k38_openM {w : World} {base : Nat} {ok : Nat → Prop} {x : S38} {cs : List Value} (h : k38.M w base ok x cs) : cs = [.int .i64 x.f0, .string x.f1, .int .u32 x.f2, .int .u64 x.f3, .bool x.f4, .bool x.f5, .int .u64 x.f6.f0.f0, .int .u64 x.f6.f0.f1.f0, .int .i64 x.f6.f0.f1.f1, .int .u64 x.f6.f0.f2, .slice x.f6.f1.A x.f6.f1.n x.f6.f1.c, .int .u64 x.f7.f0, .int .u64 x.f7.f1.f0, .int .i64 x.f7.f1.f1, .int .u64 x.f7.f2, .int .u64 x.f8, .int .i64 x.f9, .int .i64 x.f10] := by
  obtain ⟨_, _, rfl, rfl, ⟨_, _, rfl, rfl, ⟨_, _, rfl, rfl, ⟨_, _, rfl, rfl, ⟨_, _, rfl, rfl, ⟨_, _, rfl, rfl, ⟨_, _, rfl, s6, ⟨_, _, rfl, s11, ⟨_, _, rfl, rfl, ⟨_, _, rfl, rfl, rfl⟩⟩⟩⟩⟩⟩⟩⟩⟩⟩ := h
  obtain rfl := k36_openM s6
  obtain rfl := k33_openM s11
  exact rfl
theorem k38_mk (w : World) (x : S38)  : k38.K w x [.int .i64 x.f0, .string x.f1, .int .u32 x.f2, .int .u64 x.f3, .bool x.f4, .bool x.f5, .int .u64 x.f6.f0.f0, .int .u64 x.f6.f0.f1.f0, .int .i64 x.f6.f0.f1.f1, .int .u64 x.f6.f0.f2, .slice x.f6.f1.A x.f6.f1.n x.f6.f1.c, .int .u64 x.f7.f0, .int .u64 x.f7.f1.f0, .int .i64 x.f7.f1.f1, .int .u64 x.f7.f2, .int .u64 x.f8, .int .i64 x.f9, .int .i64 x.f10] := ⟨[.int .i64 x.f0], [.string x.f1, .int .u32 x.f2, .int .u64 x.f3, .bool x.f4, .bool x.f5, .int .u64 x.f6.f0.f0, .int .u64 x.f6.f0.f1.f0, .int .i64 x.f6.f0.f1.f1, .int .u64 x.f6.f0.f2, .slice x.f6.f1.A x.f6.f1.n x.f6.f1.c, .int .u64 x.f7.f0, .int .u64 x.f7.f1.f0, .int .i64 x.f7.f1.f1, .int .u64 x.f7.f2, .int .u64 x.f8, .int .i64 x.f9, .int .i64 x.f10], rfl, rfl, ⟨[.string x.f1], [.int .u32 x.f2, .int .u64 x.f3, .bool x.f4, .bool x.f5, .int .u64 x.f6.f0.f0, .int .u64 x.f6.f0.f1.f0, .int .i64 x.f6.f0.f1.f1, .int .u64 x.f6.f0.f2, .slice x.f6.f1.A x.f6.f1.n x.f6.f1.c, .int .u64 x.f7.f0, .int .u64 x.f7.f1.f0, .int .i64 x.f7.f1.f1, .int .u64 x.f7.f2, .int .u64 x.f8, .int .i64 x.f9, .int .i64 x.f10], rfl, rfl, ⟨[.int .u32 x.f2], [.int .u64 x.f3, .bool x.f4, .bool x.f5, .int .u64 x.f6.f0.f0, .int .u64 x.f6.f0.f1.f0, .int .i64 x.f6.f0.f1.f1, .int .u64 x.f6.f0.f2, .slice x.f6.f1.A x.f6.f1.n x.f6.f1.c, .int .u64 x.f7.f0, .int .u64 x.f7.f1.f0, .int .i64 x.f7.f1.f1, .int .u64 x.f7.f2, .int .u64 x.f8, .int .i64 x.f9, .int .i64 x.f10], rfl, rfl, ⟨[.int .u64 x.f3], [.bool x.f4, .bool x.f5, .int .u64 x.f6.f0.f0, .int .u64 x.f6.f0.f1.f0, .int .i64 x.f6.f0.f1.f1, .int .u64 x.f6.f0.f2, .slice x.f6.f1.A x.f6.f1.n x.f6.f1.c, .int .u64 x.f7.f0, .int .u64 x.f7.f1.f0, .int .i64 x.f7.f1.f1, .int .u64 x.f7.f2, .int .u64 x.f8, .int .i64 x.f9, .int .i64 x.f10], rfl, rfl, ⟨[.bool x.f4], [.bool x.f5, .int .u64 x.f6.f0.f0, .int .u64 x.f6.f0.f1.f0, .int .i64 x.f6.f0.f1.f1, .int .u64 x.f6.f0.f2, .slice x.f6.f1.A x.f6.f1.n x.f6.f1.c, .int .u64 x.f7.f0, .int .u64 x.f7.f1.f0, .int .i64 x.f7.f1.f1, .int .u64 x.f7.f2, .int .u64 x.f8, .int .i64 x.f9, .int .i64 x.f10], rfl, rfl, ⟨[.bool x.f5], [.int .u64 x.f6.f0.f0, .int .u64 x.f6.f0.f1.f0, .int .i64 x.f6.f0.f1.f1, .int .u64 x.f6.f0.f2, .slice x.f6.f1.A x.f6.f1.n x.f6.f1.c, .int .u64 x.f7.f0, .int .u64 x.f7.f1.f0, .int .i64 x.f7.f1.f1, .int .u64 x.f7.f2, .int .u64 x.f8, .int .i64 x.f9, .int .i64 x.f10], rfl, rfl, ⟨[.int .u64 x.f6.f0.f0, .int .u64 x.f6.f0.f1.f0, .int .i64 x.f6.f0.f1.f1, .int .u64 x.f6.f0.f2, .slice x.f6.f1.A x.f6.f1.n x.f6.f1.c], [.int .u64 x.f7.f0, .int .u64 x.f7.f1.f0, .int .i64 x.f7.f1.f1, .int .u64 x.f7.f2, .int .u64 x.f8, .int .i64 x.f9, .int .i64 x.f10], rfl, (k36_mk w x.f6 ), ⟨[.int .u64 x.f7.f0, .int .u64 x.f7.f1.f0, .int .i64 x.f7.f1.f1, .int .u64 x.f7.f2], [.int .u64 x.f8, .int .i64 x.f9, .int .i64 x.f10], rfl, (k33_mk w x.f7 ), ⟨[.int .u64 x.f8], [.int .i64 x.f9, .int .i64 x.f10], rfl, rfl, ⟨[.int .i64 x.f9], [.int .i64 x.f10], rfl, rfl, rfl⟩⟩⟩⟩⟩⟩⟩⟩⟩⟩
theorem k38_mkM (w : World) (base : Nat) (ok : Nat → Prop) (x : S38)  : k38.M w base ok x [.int .i64 x.f0, .string x.f1, .int .u32 x.f2, .int .u64 x.f3, .bool x.f4, .bool x.f5, .int .u64 x.f6.f0.f0, .int .u64 x.f6.f0.f1.f0, .int .i64 x.f6.f0.f1.f1, .int .u64 x.f6.f0.f2, .slice x.f6.f1.A x.f6.f1.n x.f6.f1.c, .int .u64 x.f7.f0, .int .u64 x.f7.f1.f0, .int .i64 x.f7.f1.f1, .int .u64 x.f7.f2, .int .u64 x.f8, .int .i64 x.f9, .int .i64 x.f10] := ⟨[.int .i64 x.f0], [.string x.f1, .int .u32 x.f2, .int .u64 x.f3, .bool x.f4, .bool x.f5, .int .u64 x.f6.f0.f0, .int .u64 x.f6.f0.f1.f0, .int .i64 x.f6.f0.f1.f1, .int .u64 x.f6.f0.f2, .slice x.f6.f1.A x.f6.f1.n x.f6.f1.c, .int .u64 x.f7.f0, .int .u64 x.f7.f1.f0, .int .i64 x.f7.f1.f1, .int .u64 x.f7.f2, .int .u64 x.f8, .int .i64 x.f9, .int .i64 x.f10], rfl, rfl, ⟨[.string x.f1], [.int .u32 x.f2, .int .u64 x.f3, .bool x.f4, .bool x.f5, .int .u64 x.f6.f0.f0, .int .u64 x.f6.f0.f1.f0, .int .i64 x.f6.f0.f1.f1, .int .u64 x.f6.f0.f2, .slice x.f6.f1.A x.f6.f1.n x.f6.f1.c, .int .u64 x.f7.f0, .int .u64 x.f7.f1.f0, .int .i64 x.f7.f1.f1, .int .u64 x.f7.f2, .int .u64 x.f8, .int .i64 x.f9, .int .i64 x.f10], rfl, rfl, ⟨[.int .u32 x.f2], [.int .u64 x.f3, .bool x.f4, .bool x.f5, .int .u64 x.f6.f0.f0, .int .u64 x.f6.f0.f1.f0, .int .i64 x.f6.f0.f1.f1, .int .u64 x.f6.f0.f2, .slice x.f6.f1.A x.f6.f1.n x.f6.f1.c, .int .u64 x.f7.f0, .int .u64 x.f7.f1.f0, .int .i64 x.f7.f1.f1, .int .u64 x.f7.f2, .int .u64 x.f8, .int .i64 x.f9, .int .i64 x.f10], rfl, rfl, ⟨[.int .u64 x.f3], [.bool x.f4, .bool x.f5, .int .u64 x.f6.f0.f0, .int .u64 x.f6.f0.f1.f0, .int .i64 x.f6.f0.f1.f1, .int .u64 x.f6.f0.f2, .slice x.f6.f1.A x.f6.f1.n x.f6.f1.c, .int .u64 x.f7.f0, .int .u64 x.f7.f1.f0, .int .i64 x.f7.f1.f1, .int .u64 x.f7.f2, .int .u64 x.f8, .int .i64 x.f9, .int .i64 x.f10], rfl, rfl, ⟨[.bool x.f4], [.bool x.f5, .int .u64 x.f6.f0.f0, .int .u64 x.f6.f0.f1.f0, .int .i64 x.f6.f0.f1.f1, .int .u64 x.f6.f0.f2, .slice x.f6.f1.A x.f6.f1.n x.f6.f1.c, .int .u64 x.f7.f0, .int .u64 x.f7.f1.f0, .int .i64 x.f7.f1.f1, .int .u64 x.f7.f2, .int .u64 x.f8, .int .i64 x.f9, .int .i64 x.f10], rfl, rfl, ⟨[.bool x.f5], [.int .u64 x.f6.f0.f0, .int .u64 x.f6.f0.f1.f0, .int .i64 x.f6.f0.f1.f1, .int .u64 x.f6.f0.f2, .slice x.f6.f1.A x.f6.f1.n x.f6.f1.c, .int .u64 x.f7.f0, .int .u64 x.f7.f1.f0, .int .i64 x.f7.f1.f1, .int .u64 x.f7.f2, .int .u64 x.f8, .int .i64 x.f9, .int .i64 x.f10], rfl, rfl, ⟨[.int .u64 x.f6.f0.f0, .int .u64 x.f6.f0.f1.f0, .int .i64 x.f6.f0.f1.f1, .int .u64 x.f6.f0.f2, .slice x.f6.f1.A x.f6.f1.n x.f6.f1.c], [.int .u64 x.f7.f0, .int .u64 x.f7.f1.f0, .int .i64 x.f7.f1.f1, .int .u64 x.f7.f2, .int .u64 x.f8, .int .i64 x.f9, .int .i64 x.f10], rfl, (k36_mkM w base ok x.f6 ), ⟨[.int .u64 x.f7.f0, .int .u64 x.f7.f1.f0, .int .i64 x.f7.f1.f1, .int .u64 x.f7.f2], [.int .u64 x.f8, .int .i64 x.f9, .int .i64 x.f10], rfl, (k33_mkM w base ok x.f7 ), ⟨[.int .u64 x.f8], [.int .i64 x.f9, .int .i64 x.f10], rfl, rfl, ⟨[.int .i64 x.f9], [.int .i64 x.f10], rfl, rfl, rfl⟩⟩⟩⟩⟩⟩⟩⟩⟩⟩
def rd_T38 (xs : List S38) (i : Int) : S38 := xs.getD i.toNat z38
theorem at_T38 {w : World} {A : Option Addr} {n : Nat} {xs : List S38} (h : Kd.C k38 w A n xs) (i : Int) (h0 : 0 ≤ i) (h1 : i < n) : ∃ ad , A = some ad ∧ w.cell? (ad.add (i.toNat * 18)) = some (.int .i64 (rd_T38 xs i).f0) ∧ w.cell? ⟨(ad.add (i.toNat * 18)).block, (ad.add (i.toNat * 18)).off + 1, none⟩ = some (.string (rd_T38 xs i).f1) ∧ w.cell? ⟨(ad.add (i.toNat * 18)).block, (ad.add (i.toNat * 18)).off + 2, none⟩ = some (.int .u32 (rd_T38 xs i).f2) ∧ w.cell? ⟨(ad.add (i.toNat * 18)).block, (ad.add (i.toNat * 18)).off + 3, none⟩ = some (.int .u64 (rd_T38 xs i).f3) ∧ w.cell? ⟨(ad.add (i.toNat * 18)).block, (ad.add (i.toNat * 18)).off + 4, none⟩ = some (.bool (rd_T38 xs i).f4) ∧ w.cell? ⟨(ad.add (i.toNat * 18)).block, (ad.add (i.toNat * 18)).off + 5, none⟩ = some (.bool (rd_T38 xs i).f5) ∧ w.cell? ⟨(ad.add (i.toNat * 18)).block, (ad.add (i.toNat * 18)).off + 6, none⟩ = some (.int .u64 (rd_T38 xs i).f6.f0.f0) ∧ w.cell? ⟨(ad.add (i.toNat * 18)).block, (ad.add (i.toNat * 18)).off + 7, none⟩ = some (.int .u64 (rd_T38 xs i).f6.f0.f1.f0) ∧ w.cell? ⟨(ad.add (i.toNat * 18)).block, (ad.add (i.toNat * 18)).off + 8, none⟩ = some (.int .i64 (rd_T38 xs i).f6.f0.f1.f1) ∧ w.cell? ⟨(ad.add (i.toNat * 18)).block, (ad.add (i.toNat * 18)).off + 9, none⟩ = some (.int .u64 (rd_T38 xs i).f6.f0.f2) ∧ w.cell? ⟨(ad.add (i.toNat * 18)).block, (ad.add (i.toNat * 18)).off + 10, none⟩ = some (.slice (rd_T38 xs i).f6.f1.A (rd_T38 xs i).f6.f1.n (rd_T38 xs i).f6.f1.c) ∧ w.cell? ⟨(ad.add (i.toNat * 18)).block, (ad.add (i.toNat * 18)).off + 11, none⟩ = some (.int .u64 (rd_T38 xs i).f7.f0) ∧ w.cell? ⟨(ad.add (i.toNat * 18)).block, (ad.add (i.toNat * 18)).off + 12, none⟩ = some (.int .u64 (rd_T38 xs i).f7.f1.f0) ∧ w.cell? ⟨(ad.add (i.toNat * 18)).block, (ad.add (i.toNat * 18)).off + 13, none⟩ = some (.int .i64 (rd_T38 xs i).f7.f1.f1) ∧ w.cell? ⟨(ad.add (i.toNat * 18)).block, (ad.add (i.toNat * 18)).off + 14, none⟩ = some (.int .u64 (rd_T38 xs i).f7.f2) ∧ w.cell? ⟨(ad.add (i.toNat * 18)).block, (ad.add (i.toNat * 18)).off + 15, none⟩ = some (.int .u64 (rd_T38 xs i).f8) ∧ w.cell? ⟨(ad.add (i.toNat * 18)).block, (ad.add (i.toNat * 18)).off + 16, none⟩ = some (.int .i64 (rd_T38 xs i).f9) ∧ w.cell? ⟨(ad.add (i.toNat * 18)).block, (ad.add (i.toNat * 18)).off + 17, none⟩ = some (.int .i64 (rd_T38 xs i).f10) := by
  obtain ⟨ad, c, e, _, hK, hc0⟩ := Kd.C_get h z38 i h0 h1
  have hc : ∀ j u, c[j]? = some u → w.cell? (ad.add (i.toNat * 18 + j)) = some u := hc0
  obtain rfl := k38_open hK
  exact ⟨ad, e, hc 0 _ rfl, by rw [← add_field _ _ 1 (by omega)]; exact hc 1 _ rfl, by rw [← add_field _ _ 2 (by omega)]; exact hc 2 _ rfl, by rw [← add_field _ _ 3 (by omega)]; exact hc 3 _ rfl, by rw [← add_field _ _ 4 (by omega)]; exact hc 4 _ rfl, by rw [← add_field _ _ 5 (by omega)]; exact hc 5 _ rfl, by rw [← add_field _ _ 6 (by omega)]; exact hc 6 _ rfl, by rw [← add_field _ _ 7 (by omega)]; exact hc 7 _ rfl, by rw [← add_field _ _ 8 (by omega)]; exact hc 8 _ rfl, by rw [← add_field _ _ 9 (by omega)]; exact hc 9 _ rfl, by rw [← add_field _ _ 10 (by omega)]; exact hc 10 _ rfl, by rw [← add_field _ _ 11 (by omega)]; exact hc 11 _ rfl, by rw [← add_field _ _ 12 (by omega)]; exact hc 12 _ rfl, by rw [← add_field _ _ 13 (by omega)]; exact hc 13 _ rfl, by rw [← add_field _ _ 14 (by omega)]; exact hc 14 _ rfl, by rw [← add_field _ _ 15 (by omega)]; exact hc 15 _ rfl, by rw [← add_field _ _ 16 (by omega)]; exact hc 16 _ rfl, by rw [← add_field _ _ 17 (by omega)]; exact hc 17 _ rfl⟩

end Go.Proofs.Ytgpldjckohlkfaa.P
