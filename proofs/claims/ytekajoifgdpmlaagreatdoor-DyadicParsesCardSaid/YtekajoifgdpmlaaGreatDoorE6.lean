/- dyadic.Mul: what the call computes. -/
import Derived.Test.YtekajoifgdpmlaaGreatDoorE4
namespace Go.Proofs.YtekajoifgdpmlaaGreatDoor
open Go.RowKit Pl Go.Shelf

def mulD (d d' : Dy) : Dy × Int := if vld d = true ∧ vld d' = true then checkD (d.neg != d'.neg) (val d.l * val d'.l) (d.e + d'.e) else (zeroD, 1)
theorem blen_mul {v u : Nat} (hv : 0 < v) (hu : 0 < u) : blen v + blen u ≤ blen (v * u) + 1 ∧ blen (v * u) ≤ blen v + blen u := by
  have p1 := blen_pos v hv
  have p2 := blen_pos u hu
  constructor
  · have h1 := Nat.mul_le_mul (le_blen v hv) (le_blen u hu)
    rw [← Nat.pow_add] at h1
    have := lt_blen_of _ _ h1
    omega
  · refine blen_le_of _ _ ?_
    rw [Nat.pow_add]
    exact Nat.mul_lt_mul'' (lt_blen v) (lt_blen u)

end Go.Proofs.YtekajoifgdpmlaaGreatDoor
