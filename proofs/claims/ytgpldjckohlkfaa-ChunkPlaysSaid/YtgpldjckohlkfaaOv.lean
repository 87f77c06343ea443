/- Slices that are only handed on, and asked for their length: as they are, with no word of what they hold. -/
import Derived.Test.YtgpldjckohlkfaaWMore
namespace Go.Proofs.YtgpldjckohlkfaaOv
open Go.RowKit Go.Proofs.YtgpldjckohlkfaaW.PrintWords
structure OV where
  A : Option Addr
  n : Nat
  c : Nat
  hc : n ≤ c
  hm : n ≤ 9223372036854775807
def OV.nil : OV := ⟨none, 0, 0, Nat.le_refl _, by omega⟩
def kdOV : Kd OV := Kd.scalar (fun x => Value.slice x.A x.n x.c) (fun _ => rfl)
end Go.Proofs.YtgpldjckohlkfaaOv
