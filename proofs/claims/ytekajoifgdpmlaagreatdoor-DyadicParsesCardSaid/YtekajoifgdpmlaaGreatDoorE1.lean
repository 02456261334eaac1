/- The law's long over dyadic numbers: what the call computes. -/
import Derived.Test.YtekajoifgdpmlaaGreatDoorL2
namespace Go.Proofs.YtekajoifgdpmlaaGreatDoor
open Go.RowKit Pl Go.Shelf

/-- A number as its three cells hold it. -/
structure DV where
  neg : Bool
  A : Option Addr
  n : Nat
  c : Nat
  x : Int
def DV.v (d : DV) : Value := .agg #[.bool d.neg, .slice d.A d.n d.c, .int .i64 d.x]
def longD (k : Nat) (F : Nat → DV) : Bool := decide (∃ j, j < k ∧ 300 < (F j).n)

def IdxB (b : Bool) (w : World) (e : Ending) (w' : World) : Prop := ∃ r : Int, e = .returned (.int .i64 r) ∧ decide (0 ≤ r) = b ∧ Below w.heap.size w w'

end Go.Proofs.YtekajoifgdpmlaaGreatDoor
