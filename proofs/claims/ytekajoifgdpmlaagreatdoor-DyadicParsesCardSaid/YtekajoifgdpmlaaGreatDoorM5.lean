/- The plain law of the tops: 2^(t - 1) <= |d| < 2^t. -/
import Derived.Test.YtekajoifgdpmlaaGreatDoorE3
namespace Go.Proofs.YtekajoifgdpmlaaGreatDoor
open Go.RowKit Pl Go.Shelf

theorem digs_one : digs 1 = [1] := by rw [digs_pos 1 (by omega)]; rfl
theorem blen_one : blen 1 = 1 := by decide +kernel
theorem canon_one (t : Int) : canonD false 1 t = ⟨false, [1], t⟩ := by
  rw [canon_pos (by omega), tz_odd (n := 1) rfl]
  simp [digs_one]
theorem vld_one (t : Int) : vld ⟨false, [1], t⟩ = decide (-16384 ≤ t ∧ t + 1 ≤ 16384) := by
  have h := vld_canon false 1 t
  rw [canon_one] at h
  rw [h]
  simp only [val_single]
  rw [inR_pos (by omega), blen_one]
  exact decide_eq_decide.2 (by omega)
theorem make_one (t : Int) (h1 : -32768 ≤ t) (h2 : t ≤ 32768) : makeD false [1] t = if vld ⟨false, [1], t⟩ = true then (⟨false, [1], t⟩, 0) else (zeroD, 9) := by
  unfold makeD
  rw [if_neg (by simp [expB]; omega)]
  unfold checkD
  rw [val_single, ← vld_canon, canon_one]
theorem sgn_pos {l : List Nat} {x : Int} (hv : vld ⟨false, l, x⟩ = true) (hl : l ≠ []) : sgnD ⟨false, l, x⟩ = 1 := by
  unfold sgnD
  rw [if_pos ⟨hv, hl⟩]
  rfl
theorem vld_abs {neg : Bool} {l : List Nat} {x : Int} (hv : vld ⟨neg, l, x⟩ = true) (hl : l ≠ []) : vld ⟨false, l, x⟩ = true := by
  unfold vld at hv ⊢
  simp only [decide_eq_true_eq] at hv ⊢
  rcases hv with h | h
  · exact absurd h.1 hl
  · exact .inr h
theorem abs_ne {neg : Bool} {l : List Nat} {x : Int} (hv : vld ⟨neg, l, x⟩ = true) (hl : l ≠ []) : absD ⟨neg, l, x⟩ = ⟨false, l, x⟩ := by
  unfold absD
  rw [if_pos ⟨hv, hl⟩]

theorem tops_law {neg : Bool} {l : List Nat} {x : Int} (hv : vld ⟨neg, l, x⟩ = true) (hl : l ≠ []) :
    makeD false [1] (topD ⟨neg, l, x⟩ - 1) = (⟨false, [1], topD ⟨neg, l, x⟩ - 1⟩, 0) ∧ 0 ≤ cmpD (absD ⟨neg, l, x⟩) ⟨false, [1], topD ⟨neg, l, x⟩ - 1⟩ ∧
    (makeD false [1] (topD ⟨neg, l, x⟩) = (zeroD, 9) ∨ (makeD false [1] (topD ⟨neg, l, x⟩) = (⟨false, [1], topD ⟨neg, l, x⟩⟩, 0) ∧ cmpD (absD ⟨neg, l, x⟩) ⟨false, [1], topD ⟨neg, l, x⟩⟩ = -1)) ∧ -40000 ≤ topD ⟨neg, l, x⟩ ∧ topD ⟨neg, l, x⟩ ≤ 40000 := by
  obtain ⟨b1, b2, b3, b4, b5, b6, b7⟩ := vld_bounds hv hl
  simp only at b1 b2 b3 b4 b5 b6 b7
  have hva := vld_abs hv hl
  have ht : topD ⟨neg, l, x⟩ = (blen (val l) : Int) + x := by unfold topD; rw [if_pos ⟨hv, hl⟩]
  have hp : 0 < val l := by omega
  have hN := blen_pos (val l) hp
  rw [abs_ne hv hl]
  generalize topD ⟨neg, l, x⟩ = t at *
  have hv1 : vld ⟨false, [1], t - 1⟩ = true := by rw [vld_one]; simp; omega
  refine ⟨?_, ?_, ?_, by omega, by omega⟩
  · rw [make_one _ (by omega) (by omega), if_pos hv1]
  · unfold cmpD
    rw [if_pos ⟨hva, hv1⟩, sgn_pos hva hl, sgn_pos hv1 (by simp), if_neg (by omega), if_neg (by omega), if_neg (by omega)]
    unfold acmp
    simp only [val_single, blen_one]
    rw [if_neg (by omega), if_neg (by omega)]
    have e1 : min x (t - 1) = x := by omega
    have e2 : (x - x).toNat = 0 := by omega
    have e3 : (t - 1 - x).toNat = blen (val l) - 1 := by omega
    rw [e1, e2, e3]
    have := le_blen (val l) hp
    unfold cmpN
    rw [if_neg (by omega)]
    split <;> omega
  · rw [make_one _ (by omega) (by omega)]
    cases hv2 : vld ⟨false, [1], t⟩
    · exact .inl rfl
    · refine .inr ⟨rfl, ?_⟩
      unfold cmpD
      rw [if_pos ⟨hva, hv2⟩, sgn_pos hva hl, sgn_pos hv2 (by simp), if_neg (by omega), if_neg (by omega), if_neg (by omega)]
      unfold acmp
      simp only [val_single, blen_one]
      rw [if_pos (by omega)]
      rfl

end Go.Proofs.YtekajoifgdpmlaaGreatDoor
