/- Plain arithmetic of dyadic numbers: sums. No program in sight. -/
import Derived.Test.YtekajoifgdpmlaaGreatDoorR4
namespace Go.Proofs.YtekajoifgdpmlaaGreatDoor
open Pl

/-- The sum of (-1)^neg P 2^e and (-1)^neg' Q 2^e, canonical, or the error. -/
def sumV (neg neg' : Bool) (P Q : Nat) (e : Int) : Dy × Int := if neg = neg' then checkD neg (P + Q) e else if P < Q then checkD neg' (Q - P) e else checkD neg (P - Q) e

theorem tz_odd' {n : Nat} (h : n % 2 = 1) : tz n = 0 ∧ oddp n = n := by
  have h0 : tz n = 0 := tz_eq (m := n / 2) (by omega)
  exact ⟨h0, by unfold oddp; rw [h0]; simp⟩
/-- An odd number of too many bits is out of range. -/
theorem check_big (neg : Bool) (v : Nat) (e : Int) (ho : v % 2 = 1) (hb : 4096 < blen v) : checkD neg v e = (zeroD, 9) := by
  have hp : 0 < v := by omega
  unfold checkD
  rw [val_canon hp, (tz_odd' ho).2]
  have : inR v (canonD neg v e).e = false := by
    rw [inR_pos hp]
    exact decide_eq_false (fun h => by omega)
  rw [this]; rfl
theorem pow_even (k : Nat) (h : 0 < k) : 2 ^ k % 2 = 0 := by
  obtain ⟨j, rfl⟩ : ∃ j, k = j + 1 := ⟨k - 1, by omega⟩
  rw [Nat.pow_succ]; omega
theorem mul_pow_even (v k : Nat) (h : 0 < k) : v * 2 ^ k % 2 = 0 := by
  rw [Nat.mul_mod, pow_even k h]; simp
/-- Nothing cancels out. -/
theorem blen_apart {P Q : Nat} (h : blen Q + 1 < blen P) : blen P ≤ blen (P - Q) + 1 ∧ blen P ≤ blen (P + Q) ∧ Q < P := by
  have h1 := lt_blen Q
  have hP : 0 < P := by
    rcases Nat.eq_zero_or_pos P with rfl | h0
    · rw [blen_zero] at h; omega
    · exact h0
  have h2 := le_blen P hP
  obtain ⟨t, ht⟩ : ∃ t, blen P = blen Q + 2 + t := ⟨blen P - (blen Q + 2), by omega⟩
  rw [ht, show blen Q + 2 + t - 1 = blen Q + 1 + t from by omega] at h2
  have e : 2 ^ (blen Q + 1 + t) = 2 * 2 ^ (blen Q + t) := by rw [show blen Q + 1 + t = (blen Q + t) + 1 from by omega, Nat.pow_succ, Nat.mul_comm]
  have e2 : 2 ^ blen Q ≤ 2 ^ (blen Q + t) := Nat.pow_le_pow_right (by omega) (by omega)
  refine ⟨?_, ?_, by omega⟩
  · have := lt_blen_of (P - Q) (blen Q + t) (by omega)
    omega
  · have := lt_blen_of (P + Q) (blen Q + 1 + t) (by omega)
    omega
theorem early_lt {P Q k : Nat} {v : Nat} (hP : P = v * 2 ^ k) (hQo : Q % 2 = 1) (hk : 0 < k) (h : blen Q + 1 < blen P) (hbig : 4097 < blen P) (neg neg' : Bool) (e : Int) : sumV neg neg' P Q e = (zeroD, 9) := by
  obtain ⟨h1, h2, h3⟩ := blen_apart h
  have hPe : P % 2 = 0 := by rw [hP]; exact mul_pow_even v k hk
  unfold sumV
  split
  · exact check_big _ _ _ (by omega) (by omega)
  · rw [if_neg (by omega)]
    exact check_big _ _ _ (by omega) (by omega)
theorem early_gt {P Q k : Nat} {v : Nat} (hQ : Q = v * 2 ^ k) (hPo : P % 2 = 1) (hk : 0 < k) (h : blen P + 1 < blen Q) (hbig : 4097 < blen Q) (neg neg' : Bool) (e : Int) : sumV neg neg' P Q e = (zeroD, 9) := by
  obtain ⟨h1, h2, h3⟩ := blen_apart h
  have hPe : Q % 2 = 0 := by rw [hQ]; exact mul_pow_even v k hk
  unfold sumV
  split
  · rw [Nat.add_comm]; exact check_big _ _ _ (by omega) (by omega)
  · exact check_big _ _ _ (by omega) (by omega)
/-- The early exit of the sum is right: a and b are odd mantissas of at most 4096 bits. -/
theorem sum_early {a b : Nat} {x x' mn : Int} (ha : a % 2 = 1) (hb : b % 2 = 1) (ha2 : blen a ≤ 4096) (hb2 : blen b ≤ 4096) (hmn : min x x' = mn) (hmax : 4097 < max ((blen a : Int) + x) ((blen b : Int) + x') - mn)
    (hd : 1 < ((blen a : Int) + x) - ((blen b : Int) + x') ∨ 1 < ((blen b : Int) + x') - ((blen a : Int) + x)) (neg neg' : Bool) :
    sumV neg neg' (a * 2 ^ (x - mn).toNat) (b * 2 ^ (x' - mn).toNat) mn = (zeroD, 9) := by
  have e1 := blen_mul_pow a (x - mn).toNat (by omega)
  have e2 := blen_mul_pow b (x' - mn).toNat (by omega)
  rcases Int.lt_trichotomy x x' with h | h | h
  · obtain rfl : mn = x := by omega
    rw [show (mn - mn).toNat = 0 from by omega, Nat.pow_zero, Nat.mul_one] at e1 ⊢
    exact early_gt rfl ha (by omega) (by omega) (by omega) neg neg' mn
  · subst h
    omega
  · obtain rfl : mn = x' := by omega
    rw [show (mn - mn).toNat = 0 from by omega, Nat.pow_zero, Nat.mul_one] at e2 ⊢
    exact early_lt rfl hb (by omega) (by omega) (by omega) neg neg' mn

end Go.Proofs.YtekajoifgdpmlaaGreatDoor
