/- The plain law of the scales: scaling and scaling back, the top, the bits, the product with a power of two. -/
import Derived.Test.YtekajoifgdpmlaaGreatDoorE6
import Derived.Test.YtekajoifgdpmlaaGreatDoorM5
namespace Go.Proofs.YtekajoifgdpmlaaGreatDoor
open Go.RowKit Pl Go.Shelf

theorem canon_odd {neg : Bool} {l : List Nat} {e : Int} (hL : Limbs l) (ht : Trim l) (ho : val l % 2 = 1) : canonD neg (val l) e = ⟨neg, l, e⟩ := by
  rw [canon_pos (by omega), tz_odd ho]
  simp [digs_val l hL ht]
theorem check_odd {neg : Bool} {l : List Nat} {e : Int} (hL : Limbs l) (ht : Trim l) (ho : val l % 2 = 1) : checkD neg (val l) e = if vld ⟨neg, l, e⟩ = true then (⟨neg, l, e⟩, 0) else (zeroD, 9) := by
  unfold checkD
  rw [← vld_canon, canon_odd hL ht ho]
theorem check_zero (neg : Bool) (e : Int) : checkD neg 0 e = (zeroD, 0) := rfl
theorem vld_zero : vld zeroD = true := rfl
theorem vld_empty {neg : Bool} {x : Int} (hv : vld ⟨neg, [], x⟩ = true) : neg = false ∧ x = 0 := by
  rw [vld_nil] at hv
  simpa using hv

theorem scales_law {neg : Bool} {l : List Nat} {x k : Int} {d2 : Dy} (hL : Limbs l) (h1 : -32768 ≤ k) (h2 : k ≤ 32767) (he : scaleD ⟨neg, l, x⟩ k = (d2, 0)) :
    vld ⟨neg, l, x⟩ = true ∧ scaleD d2 (-k) = (⟨neg, l, x⟩, 0) ∧ (l ≠ [] → topD d2 = topD ⟨neg, l, x⟩ + k) ∧ bitsD d2 = bitsD ⟨neg, l, x⟩ ∧
      ∀ p g, makeD false [1] k = (p, g) → g ≠ 0 ∨ mulD ⟨neg, l, x⟩ p = (d2, 0) := by
  have hk : expB k = true := by simp [expB]; omega
  have hk' : expB (-k) = true := by simp [expB]; omega
  cases hv : vld ⟨neg, l, x⟩
  · unfold scaleD at he
    rw [hv] at he
    simp at he
  have hm : ∀ p g, makeD false [1] k = (p, g) → g = 0 → p = ⟨false, [1], k⟩ ∧ vld ⟨false, [1], k⟩ = true := by
    intro p g hp hg
    rw [make_one k (by omega) (by omega)] at hp
    subst hg
    cases hv1 : vld ⟨false, [1], k⟩
    · rw [hv1] at hp
      simp at hp
    · rw [hv1] at hp
      simp at hp
      exact ⟨hp.symm, rfl⟩
  unfold scaleD at he
  rw [if_pos ⟨hv, hk⟩] at he
  by_cases hl : l = []
  · subst hl
    obtain ⟨rfl, rfl⟩ := vld_empty hv
    have e0 : checkD false (val []) (0 + k) = (zeroD, 0) := rfl
    simp only at he
    rw [e0] at he
    obtain rfl : zeroD = d2 := (Prod.mk.inj he).1
    refine ⟨rfl, ?_, fun h => absurd rfl h, rfl, fun p g hp => ?_⟩
    · unfold scaleD
      rw [if_pos ⟨vld_zero, hk'⟩]
      rfl
    · by_cases hg : g = 0
      · obtain ⟨rfl, hv1⟩ := hm p g hp hg
        refine .inr ?_
        unfold mulD
        rw [if_pos ⟨hv, hv1⟩]
        simp only [val, Nat.zero_mul]
        rfl
      · exact .inl hg
  · obtain ⟨b1, b2, b3, b4, b5, b6, b7⟩ := vld_bounds hv hl
    simp only at b1 b2 b3 b4 b5 b6 b7 he
    rw [check_odd hL b2 b3] at he
    cases hv2 : vld ⟨neg, l, x + k⟩
    · rw [hv2] at he
      simp at he
    rw [hv2, if_pos rfl] at he
    obtain rfl : ⟨neg, l, x + k⟩ = d2 := (Prod.mk.inj he).1
    refine ⟨rfl, ?_, fun _ => ?_, ?_, fun p g hp => ?_⟩
    · unfold scaleD
      rw [if_pos ⟨hv2, hk'⟩]
      simp only
      rw [check_odd hL b2 b3, show x + k + -k = x by omega, hv]
      rfl
    · unfold topD
      rw [if_pos ⟨hv2, hl⟩, if_pos ⟨hv, hl⟩]
      simp only
      omega
    · unfold bitsD
      rw [if_pos hv2, if_pos hv]
    · by_cases hg : g = 0
      · obtain ⟨rfl, hv1⟩ := hm p g hp hg
        refine .inr ?_
        unfold mulD
        rw [if_pos ⟨hv, hv1⟩]
        simp only [val_single, Nat.mul_one]
        rw [show (neg != false) = neg by simp, check_odd hL b2 b3, hv2]
        rfl
      · exact .inl hg

theorem scale_err {d : Dy} {k : Int} : (scaleD d k).2 = 0 ∨ (scaleD d k).2 = 1 ∨ (scaleD d k).2 = 9 := by
  unfold scaleD checkD
  split
  · split <;> simp
  · simp

end Go.Proofs.YtekajoifgdpmlaaGreatDoor
