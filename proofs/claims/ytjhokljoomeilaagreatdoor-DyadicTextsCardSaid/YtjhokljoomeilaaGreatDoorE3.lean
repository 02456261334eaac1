/- dyadic.compare, dyadic.Cmp: what each call computes. -/
import Derived.Test.YtjhokljoomeilaaGreatDoorE2
import Derived.Test.YtjhokljoomeilaaGreatDoorD3
namespace Go.Proofs.YtjhokljoomeilaaGreatDoor
open Go.RowKit Pl Go.Shelf

/-- The comparison of the absolute values of two valid numbers that are not 0. -/
def acmp (d d' : Dy) : Int := if (blen (val d.l) : Int) + d.e < (blen (val d'.l) : Int) + d'.e then -1 else if (blen (val d'.l) : Int) + d'.e < (blen (val d.l) : Int) + d.e then 1 else
  cmpN (val d.l * 2 ^ (d.e - min d.e d'.e).toNat) (val d'.l * 2 ^ (d'.e - min d.e d'.e).toNat)
def cmpD (d d' : Dy) : Int := if vld d = true ∧ vld d' = true then (if sgnD d < sgnD d' then -1 else if sgnD d' < sgnD d then 1 else if sgnD d = 0 then 0 else sgnD d * acmp d d') else 0

theorem sgn_ne {neg : Bool} {w : World} {A : Option Addr} {n c : Nat} {l : List Nat} {x : Int} (h : SL w A n c l) (hs : sgnD ⟨neg, l, x⟩ ≠ 0) : n ≠ 0 := by
  intro h0
  apply hs
  unfold sgnD
  rw [if_neg (by rw [ne_nil_iff h]; exact fun h => h.2 h0)]
theorem sgn_cases (d : Dy) : sgnD d = -1 ∨ sgnD d = 0 ∨ sgnD d = 1 := by
  unfold sgnD
  split
  · split <;> simp
  · simp
theorem cmpN_cases (a b : Nat) : cmpN a b = -1 ∨ cmpN a b = 0 ∨ cmpN a b = 1 := by
  unfold cmpN
  split
  · exact .inl rfl
  · split
    · exact .inr (.inr rfl)
    · exact .inr (.inl rfl)
theorem acmp_cases (d d' : Dy) : acmp d d' = -1 ∨ acmp d d' = 0 ∨ acmp d d' = 1 := by
  unfold acmp
  split
  · simp
  · split
    · simp
    · exact cmpN_cases _ _

end Go.Proofs.YtjhokljoomeilaaGreatDoor
