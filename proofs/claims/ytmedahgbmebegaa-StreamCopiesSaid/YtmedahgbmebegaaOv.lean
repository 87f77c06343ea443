/- Slices of numbers that came in by a fixed world and are only handed on, asked for their length, read: with what they hold there. -/
import Derived.Test.YtmedahgbmebegaaWMore
namespace Go.Proofs.YtmedahgbmebegaaOv
open Go.RowKit Go.Proofs.YtmedahgbmebegaaW.PrintWords
/-- The world by which things came in. -/
class TheW where w0 : World
structure OV [TheW] where
  A : Option Addr
  n : Nat
  c : Nat
  l : List Int
  hc : n ≤ c
  hm : n ≤ 9223372036854775807
  hr : Kd.C (Kd.int .u32) TheW.w0 A n l
def OV.nil [TheW] : OV := ⟨none, 0, 0, [], Nat.le_refl _, by omega, ⟨rfl, by omega, fun h => absurd h (by omega)⟩⟩
def kdOV [TheW] : Kd OV := Kd.scalar (fun x => Value.slice x.A x.n x.c) (fun _ => rfl)
theorem ne_of_E {α : Type} {d : Kd α} (hE : d.E = []) {e t : Nat} (h : e ≠ t) : ∀ q, q ∈ e :: d.E → q ≠ t := by
  intro q hq
  rw [hE, List.mem_singleton] at hq
  subst hq
  exact h
end Go.Proofs.YtmedahgbmebegaaOv
