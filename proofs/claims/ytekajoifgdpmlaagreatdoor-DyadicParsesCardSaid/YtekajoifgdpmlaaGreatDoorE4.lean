/- dyadic.Sub, Scale: what each call computes. -/
import Derived.Test.YtekajoifgdpmlaaGreatDoorE2
import Derived.Test.YtekajoifgdpmlaaGreatDoorD5
namespace Go.Proofs.YtekajoifgdpmlaaGreatDoor
open Go.RowKit Pl Go.Shelf

def subD (d d' : Dy) : Dy × Int := if vld d = true ∧ vld d' = true then sumD d (negD d') else (zeroD, 1)
theorem vld_neg {d : Dy} (hv : vld d = true) : vld (negD d) = true := by
  unfold negD
  split
  · rename_i h
    unfold vld at hv ⊢
    simp only [decide_eq_true_eq] at hv ⊢
    rcases hv with h' | h'
    · exact absurd h'.1 h.2
    · exact .inr h'
  · rfl

def scaleD (d : Dy) (k : Int) : Dy × Int := if vld d = true ∧ expB k = true then checkD d.neg (val d.l) (d.e + k) else (zeroD, 1)

end Go.Proofs.YtekajoifgdpmlaaGreatDoor
