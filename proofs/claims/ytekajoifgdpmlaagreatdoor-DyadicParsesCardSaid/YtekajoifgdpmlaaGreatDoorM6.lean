/- Limbs and products: the plain steps of natural.mul. -/
import Derived.Test.YtekajoifgdpmlaaGreatDoorMath3
namespace Go.Proofs.YtekajoifgdpmlaaGreatDoor.Pl

theorem val_set (L : List Nat) (i z y : Nat) (h : L[i]? = some z) : val (L.set i y) + 4294967296 ^ i * z = val L + 4294967296 ^ i * y := by
  induction L generalizing i with
  | nil => simp at h
  | cons a t ih =>
    cases i with
    | zero =>
      simp at h
      subst h
      simp [val]
      omega
    | succ i =>
      have := ih i (by simpa using h)
      simp only [List.set_cons_succ, val, Nat.pow_succ]
      have e1 : 4294967296 ^ i * 4294967296 * z = 4294967296 * (4294967296 ^ i * z) := by rw [Nat.mul_comm (4294967296 ^ i), Nat.mul_assoc]
      have e2 : 4294967296 ^ i * 4294967296 * y = 4294967296 * (4294967296 ^ i * y) := by rw [Nat.mul_comm (4294967296 ^ i), Nat.mul_assoc]
      rw [e1, e2]
      omega
theorem Limbs.set {L : List Nat} (h : Limbs L) (i : Nat) {y : Nat} (hy : y < 4294967296) : Limbs (L.set i y) := fun x hx => by
  rcases List.mem_or_eq_of_mem_set hx with h' | h'
  · exact h x h'
  · omega

/-- What the inner loop keeps: the row's limbs and the carry, T is what stands in the row ahead of the round plus the limb's product so far. -/
structure Mul (N i m k cy V x : Nat) (b L : List Nat) : Prop where
  len : L.length = N
  lim : Limbs L
  sum : val L + 4294967296 ^ (i + k) * cy = V + 4294967296 ^ i * (x * val (b.take k))
  zero : ∀ j, i + m ≤ j → j < N → L[j]? = some 0

theorem mul_bound {x y z c : Nat} (hx : x < 4294967296) (hy : y < 4294967296) (hz : z < 4294967296) (hc : c < 4294967296) : x * y + z + c < 18446744073709551616 := by
  have : x * y ≤ 4294967295 * 4294967295 := Nat.mul_le_mul (by omega) (by omega)
  omega

theorem Mul.step {N i m k cy V x : Nat} {b L : List Nat} (h : Mul N i m k cy V x b L) (hk : k < m) {y z : Nat} (hy : b[k]? = some y) (hz : L[i + k]? = some z) (hx : x < 4294967296) (hyl : y < 4294967296) (hc : cy < 4294967296) :
    Mul N i m (k + 1) ((x * y + z + cy) / 4294967296) V x b (L.set (i + k) ((x * y + z + cy) % 4294967296)) ∧ (x * y + z + cy) / 4294967296 < 4294967296 := by
  have hzl := h.lim.get hz
  have hb := mul_bound hx hyl hzl hc
  refine ⟨⟨by simp [h.len], h.lim.set _ (Nat.mod_lt _ (by omega)), ?_, fun j h1 h2 => ?_⟩, by omega⟩
  · have e := val_set L (i + k) z ((x * y + z + cy) % 4294967296) hz
    have s := h.sum
    rw [val_take_succ b k y hy, Nat.mul_add, Nat.mul_add, ← Nat.add_assoc, ← Nat.add_assoc]
    have e3 : 4294967296 ^ i * (x * (4294967296 ^ k * y)) = 4294967296 ^ (i + k) * (x * y) := by
      rw [Nat.pow_add, Nat.mul_left_comm x, Nat.mul_assoc]
    rw [e3, ← s, Nat.pow_succ]
    generalize 4294967296 ^ (i + k) = P at *
    have d := Nat.div_add_mod (x * y + z + cy) 4294967296
    generalize (x * y + z + cy) / 4294967296 = q at *
    generalize (x * y + z + cy) % 4294967296 = r at *
    have e4 : P * 4294967296 * q = P * (4294967296 * q) := Nat.mul_assoc _ _ _
    rw [e4]
    have e5 : P * (4294967296 * q) + P * r = P * (x * y) + P * z + P * cy := by rw [← Nat.mul_add, d, Nat.mul_add, Nat.mul_add]
    omega
  · rw [List.getElem?_set_ne (by omega)]
    exact h.zero j h1 h2

theorem Mul.done {N i m cy V x : Nat} {a b L : List Nat} (h : Mul N i m m cy V x b L) (hb : b.length = m) (hi : i + m < N) (hx : a[i]? = some x) (hV : V = val (a.take i) * val b) (hc : cy < 4294967296) :
    (L.set (i + m) cy).length = N ∧ Limbs (L.set (i + m) cy) ∧ val (L.set (i + m) cy) = val (a.take (i + 1)) * val b ∧ ∀ j, i + 1 + m ≤ j → j < N → (L.set (i + m) cy)[j]? = some 0 := by
  refine ⟨by simp [h.len], h.lim.set _ hc, ?_, fun j h1 h2 => ?_⟩
  · have e := val_set L (i + m) 0 cy (h.zero (i + m) (Nat.le_refl _) hi)
    have s := h.sum
    rw [List.take_of_length_le (by omega)] at s
    rw [val_take_succ a i x hx, Nat.add_mul, ← hV, Nat.mul_assoc, ← s]
    omega
  · rw [List.getElem?_set_ne (by omega)]
    exact h.zero j (by omega) h2

end Go.Proofs.YtekajoifgdpmlaaGreatDoor.Pl
