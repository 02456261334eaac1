/- Plain arithmetic of limbs, third part: carries. No program in sight. -/
import Derived.Test.YtekajoifgdpmlaaGreatDoorMath2
namespace Go.Proofs.YtekajoifgdpmlaaGreatDoor.Pl

theorem pre_div {V V' t i : Nat} (h : V' = V + 4294967296 ^ i * t) : V' / 4294967296 ^ i = V / 4294967296 ^ i + t := by
  rw [h, Nat.add_mul_div_left _ _ (pow_pos' i)]
theorem pre_carry {V V' t i : Nat} (h : V' = V + 4294967296 ^ i * t) : V' / 4294967296 ^ (i + 1) = (V / 4294967296 ^ i + t) / 4294967296 := by
  rw [Nat.pow_succ, ← Nat.div_div_eq_div_mul, pre_div h]
theorem dig_pre {V V' R i : Nat} (h : V = V' + 4294967296 ^ (i + 1) * R) : dig V i = V' / 4294967296 ^ i % 4294967296 := by
  rw [dig, h, Nat.pow_succ, Nat.mul_assoc, Nat.add_mul_div_left _ _ (pow_pos' i), Nat.add_mul_mod_self_left]

/-- The limb of a list, 0 behind its end. -/
def lim (l : List Nat) (i : Nat) : Nat := (l[i]?).getD 0
theorem lim_some {l : List Nat} {i x : Nat} (h : l[i]? = some x) : lim l i = x := by simp [lim, h]
theorem lim_none {l : List Nat} {i : Nat} (h : l.length ≤ i) : lim l i = 0 := by simp [lim, List.getElem?_eq_none h]
theorem lim_lt {l : List Nat} (h : Limbs l) (i : Nat) : lim l i < 4294967296 := by
  unfold lim
  cases hx : l[i]? with
  | none => simp
  | some x => simpa using h.get hx
theorem val_take_lim (l : List Nat) (i : Nat) : val (l.take (i + 1)) = val (l.take i) + 4294967296 ^ i * lim l i := by
  cases hx : l[i]? with
  | some x => rw [lim_some hx]; exact val_take_succ l i x hx
  | none =>
    have h : l.length ≤ i := by
      rcases Nat.lt_or_ge i l.length with h' | h'
      · rw [List.getElem?_eq_getElem h'] at hx; cases hx
      · exact h'
    rw [lim_none h, List.take_of_length_le (by omega), List.take_of_length_le h]; omega
theorem val_split (l : List Nat) (i : Nat) : ∃ R, val l = val (l.take i) + 4294967296 ^ i * R := by
  by_cases h : i ≤ l.length
  · refine ⟨val (l.drop i), ?_⟩
    have := val_take_drop l i
    rwa [List.length_take, Nat.min_eq_left h] at this
  · exact ⟨0, by rw [List.take_of_length_le (by omega)]; omega⟩
theorem val_take_lt (l : List Nat) (h : Limbs l) (i : Nat) : val (l.take i) < 4294967296 ^ i := by
  have h1 := val_lt (l.take i) (h.take i)
  refine Nat.lt_of_lt_of_le h1 (Nat.pow_le_pow_right (by omega) ?_)
  rw [List.length_take]; omega

/-! Sums -/
def addC (a b : List Nat) (i : Nat) : Nat := (val (a.take i) + val (b.take i)) / 4294967296 ^ i
theorem addC_zero (a b : List Nat) : addC a b 0 = 0 := by simp [addC, val]
theorem addC_le (a b : List Nat) (ha : Limbs a) (hb : Limbs b) (i : Nat) : addC a b i ≤ 1 := by
  have h1 := val_take_lt a ha i
  have h2 := val_take_lt b hb i
  unfold addC
  have : (val (a.take i) + val (b.take i)) / 4294967296 ^ i < 2 := Nat.div_lt_of_lt_mul (by omega)
  omega
theorem add_pre (a b : List Nat) (i : Nat) : val (a.take (i + 1)) + val (b.take (i + 1)) = (val (a.take i) + val (b.take i)) + 4294967296 ^ i * (lim a i + lim b i) := by
  rw [val_take_lim, val_take_lim, Nat.mul_add]; omega
theorem add_dig (a b : List Nat) (i : Nat) : dig (val a + val b) i = (lim a i + lim b i + addC a b i) % 4294967296 := by
  obtain ⟨R, hR⟩ := val_split a (i + 1)
  obtain ⟨S, hS⟩ := val_split b (i + 1)
  rw [dig_pre (V := val a + val b) (V' := val (a.take (i + 1)) + val (b.take (i + 1))) (R := R + S) (by rw [hR, hS, Nat.mul_add]; omega), pre_div (add_pre a b i), Nat.add_comm]
  rfl
theorem add_carry (a b : List Nat) (i : Nat) : addC a b (i + 1) = (lim a i + lim b i + addC a b i) / 4294967296 := by
  unfold addC
  rw [pre_carry (add_pre a b i), Nat.add_comm]
theorem add_last (a b : List Nat) (n : Nat) (ha : Limbs a) (hb : Limbs b) (h1 : a.length ≤ n) (h2 : b.length ≤ n) : dig (val a + val b) n = addC a b n := by
  rw [add_dig, lim_none h1, lim_none h2, Nat.zero_add]
  have := addC_le a b ha hb n
  omega
theorem add_lt (a b : List Nat) (n : Nat) (ha : Limbs a) (hb : Limbs b) (h1 : a.length ≤ n) (h2 : b.length ≤ n) : val a + val b < 4294967296 ^ (n + 1) := by
  have e1 := Nat.lt_of_lt_of_le (val_lt a ha) (Nat.pow_le_pow_right (n := 4294967296) (by omega) h1)
  have e2 := Nat.lt_of_lt_of_le (val_lt b hb) (Nat.pow_le_pow_right (n := 4294967296) (by omega) h2)
  rw [Nat.pow_succ]
  omega

/-! Differences -/
def subC (a b : List Nat) (i : Nat) : Nat := if val (a.take i) < val (b.take i) then 1 else 0
theorem subC_zero (a b : List Nat) : subC a b 0 = 0 := by simp [subC, val]
theorem subC_le (a b : List Nat) (i : Nat) : subC a b i ≤ 1 := by unfold subC; split <;> omega
theorem sub_carry (a b : List Nat) (ha : Limbs a) (hb : Limbs b) (i : Nat) : subC a b (i + 1) = if lim a i < lim b i + subC a b i then 1 else 0 := by
  have h1 := val_take_lt a ha i
  have h2 := val_take_lt b hb i
  unfold subC
  rw [val_take_lim a i, val_take_lim b i]
  generalize 4294967296 ^ i = p at *
  generalize lim a i = x at *
  generalize lim b i = y at *
  have hx : p * (x + 1) = p * x + p := Nat.mul_succ ..
  have hy : p * (y + 1) = p * y + p := Nat.mul_succ ..
  rcases Nat.lt_trichotomy x y with h | h | h
  · have : p * (x + 1) ≤ p * y := Nat.mul_le_mul_left p h
    rw [if_pos (by omega), if_pos (by omega)]
  · subst h
    by_cases hc : val (a.take i) < val (b.take i)
    · rw [if_pos (by omega), if_pos hc, if_pos (by omega)]
    · rw [if_neg (by omega), if_neg hc, if_neg (by omega)]
  · have : p * (y + 1) ≤ p * x := Nat.mul_le_mul_left p h
    rw [if_neg (by omega)]
    split <;> rw [if_neg (by omega)]
theorem sub_pre (a b : List Nat) (i : Nat) (hb : Limbs b) : val (a.take i) + 4294967296 ^ i * subC a b i = val (b.take i) + (val (a.take i) + 4294967296 ^ i * subC a b i - val (b.take i)) ∧ True := by
  refine ⟨?_, trivial⟩
  have h2 := val_take_lt b hb i
  unfold subC
  split <;> omega
theorem sub_dig (a b : List Nat) (ha : Limbs a) (hb : Limbs b) (h : val b ≤ val a) (i : Nat) : dig (val a - val b) i = (lim a i + 4294967296 - lim b i - subC a b i) % 4294967296 := by
  obtain ⟨R, hR⟩ := val_split a (i + 1)
  obtain ⟨S, hS⟩ := val_split b (i + 1)
  have hc := sub_carry a b ha hb i
  have h1 := val_take_lt a ha i
  have h2 := val_take_lt b hb i
  have h3 := val_take_lt a ha (i + 1)
  have h4 := val_take_lt b hb (i + 1)
  have hxl := lim_lt ha i
  have hyl := lim_lt hb i
  have hSR : S + subC a b (i + 1) ≤ R := by
    unfold subC
    have hle := h
    rw [hR, hS] at hle
    generalize 4294967296 ^ (i + 1) = q at *
    have e1 : q * (R + 1) = q * R + q := Nat.mul_succ ..
    have e2 : q * (S + 1) = q * S + q := Nat.mul_succ ..
    have e3 : q * (R + 1 + 1) = q * (R + 1) + q := Nat.mul_succ ..
    split
    · rcases Nat.lt_or_ge S R with hlt | hge
      · omega
      · have := Nat.mul_le_mul_left q hge
        omega
    · rcases Nat.lt_or_ge R S with hlt | hge
      · have : q * (R + 1) ≤ q * S := Nat.mul_le_mul_left q hlt
        omega
      · omega
  obtain ⟨D, hD⟩ : ∃ D, R = S + subC a b (i + 1) + D := ⟨R - (S + subC a b (i + 1)), by omega⟩
  have hV : val a - val b = (val (a.take (i + 1)) + 4294967296 ^ (i + 1) * subC a b (i + 1) - val (b.take (i + 1))) + 4294967296 ^ (i + 1) * D := by
    have e : 4294967296 ^ (i + 1) * R = 4294967296 ^ (i + 1) * S + 4294967296 ^ (i + 1) * subC a b (i + 1) + 4294967296 ^ (i + 1) * D := by rw [hD, Nat.mul_add, Nat.mul_add]
    have := (sub_pre a b (i + 1) hb).1
    omega
  rw [dig_pre hV]
  have hq : val (a.take (i + 1)) + 4294967296 ^ (i + 1) * subC a b (i + 1) - val (b.take (i + 1)) =
      (val (a.take i) + 4294967296 ^ i * subC a b i - val (b.take i)) + 4294967296 ^ i * ((lim a i + 4294967296 * subC a b (i + 1)) - lim b i - subC a b i) := by
    have e0 := (sub_pre a b i hb).1
    have e0' := (sub_pre a b (i + 1) hb).1
    have e1 := val_take_lim a i
    have e2 := val_take_lim b i
    obtain ⟨t, ht⟩ : ∃ t, lim a i + 4294967296 * subC a b (i + 1) = lim b i + subC a b i + t := by
      refine ⟨lim a i + 4294967296 * subC a b (i + 1) - (lim b i + subC a b i), ?_⟩
      have := subC_le a b i
      rw [hc]
      split <;> omega
    rw [show lim a i + 4294967296 * subC a b (i + 1) - lim b i - subC a b i = t from by omega]
    have e3 : 4294967296 ^ i * lim a i + 4294967296 ^ (i + 1) * subC a b (i + 1) = 4294967296 ^ i * lim b i + 4294967296 ^ i * subC a b i + 4294967296 ^ i * t := by
      have := congrArg (4294967296 ^ i * ·) ht
      simp only [Nat.mul_add] at this
      rw [Nat.pow_succ, Nat.mul_assoc]
      exact this
    omega
  rw [pre_div hq]
  have hlow : val (a.take i) + 4294967296 ^ i * subC a b i - val (b.take i) < 4294967296 ^ i := by
    unfold subC
    split <;> omega
  rw [Nat.div_eq_of_lt hlow, Nat.zero_add, hc]
  have := subC_le a b i
  split <;> omega

/-! Shifts to the left -/
def shlC (l : List Nat) (r i : Nat) : Nat := val (l.take i) * 2 ^ r / 4294967296 ^ i
theorem shlC_zero (l : List Nat) (r : Nat) : shlC l r 0 = 0 := by simp [shlC, val]
theorem shlC_lt (l : List Nat) (h : Limbs l) (r i : Nat) : shlC l r i < 2 ^ r := by
  unfold shlC
  refine Nat.div_lt_of_lt_mul ?_
  exact Nat.mul_lt_mul_of_pos_right (val_take_lt l h i) (Nat.two_pow_pos r)
theorem shl_pre (l : List Nat) (r i : Nat) : val (l.take (i + 1)) * 2 ^ r = val (l.take i) * 2 ^ r + 4294967296 ^ i * (2 ^ r * lim l i) := by
  rw [val_take_lim, Nat.add_mul, Nat.mul_assoc, Nat.mul_comm (lim l i)]
theorem shl_dig (l : List Nat) (r i : Nat) : dig (val l * 2 ^ r) i = (2 ^ r * lim l i + shlC l r i) % 4294967296 := by
  obtain ⟨R, hR⟩ := val_split l (i + 1)
  rw [dig_pre (V' := val (l.take (i + 1)) * 2 ^ r) (R := R * 2 ^ r) (by rw [← Nat.mul_assoc, ← Nat.add_mul, ← hR]), pre_div (shl_pre l r i), Nat.add_comm]
  rfl
theorem shl_carry (l : List Nat) (r i : Nat) : shlC l r (i + 1) = (2 ^ r * lim l i + shlC l r i) / 4294967296 := by
  unfold shlC
  rw [pre_carry (shl_pre l r i), Nat.add_comm]
theorem shl_last (l : List Nat) (h : Limbs l) (r n : Nat) (hr : r < 32) (hn : l.length ≤ n) : dig (val l * 2 ^ r) n = shlC l r n := by
  rw [shl_dig, lim_none hn, Nat.mul_zero, Nat.zero_add]
  have h1 := shlC_lt l h r n
  have : 2 ^ r ≤ 2 ^ 32 := Nat.pow_le_pow_right (by omega) (by omega)
  omega
theorem shl_lt (l : List Nat) (h : Limbs l) (r n : Nat) (hr : r < 32) (hn : l.length ≤ n) : val l * 2 ^ r < 4294967296 ^ (n + 1) := by
  have e1 := Nat.lt_of_lt_of_le (val_lt l h) (Nat.pow_le_pow_right (n := 4294967296) (by omega) hn)
  rw [Nat.pow_succ]
  have h2 : 2 ^ r ≤ 2 ^ 32 := Nat.pow_le_pow_right (by omega) (by omega)
  exact Nat.mul_lt_mul_of_lt_of_le e1 h2 (by omega)

/-! Division by a small number -/
theorem dig_zero (v : Nat) : dig v 0 = v % 4294967296 := by simp [dig]
theorem dig_succ (v i : Nat) : dig v (i + 1) = dig (v / 4294967296) i := by
  unfold dig
  rw [Nat.div_div_eq_div_mul, Nat.pow_succ, Nat.mul_comm]
theorem digN_cons (k x q : Nat) (hx : x < 4294967296) : digN (k + 1) (x + 4294967296 * q) = x :: digN k q := by
  unfold digN
  rw [List.range_succ_eq_map, List.map_cons, List.map_map]
  congr 1
  · rw [dig_zero]; omega
  · refine List.map_congr_left (fun i _ => ?_)
    rw [Function.comp, dig_succ, show (x + 4294967296 * q) / 4294967296 = q from by omega]
/-- The quotient and the rest of x + B V by d, out of those of V. -/
theorem short_step (x V d : Nat) (hd : 0 < d) (hx : x < 4294967296) : (x + 4294967296 * V) / d = (V % d * 4294967296 + x) / d + 4294967296 * (V / d) ∧ (x + 4294967296 * V) % d = (V % d * 4294967296 + x) % d ∧ (V % d * 4294967296 + x) / d < 4294967296 := by
  have hV := Nat.div_add_mod V d
  have hr := Nat.mod_lt V hd
  generalize V / d = Q at *
  generalize V % d = R at *
  have e : x + 4294967296 * V = (R * 4294967296 + x) + d * (4294967296 * Q) := by
    rw [← hV, Nat.mul_add, ← Nat.mul_assoc, ← Nat.mul_assoc, Nat.mul_comm d 4294967296]; omega
  refine ⟨?_, ?_, ?_⟩
  · rw [e, Nat.add_mul_div_left _ _ hd]
  · rw [e, Nat.add_mul_mod_self_left]
  · refine Nat.div_lt_of_lt_mul ?_
    have : (R + 1) * 4294967296 ≤ d * 4294967296 := Nat.mul_le_mul_right _ hr
    omega
/-- The row of a division from above: zeros, and the digits that are known. -/
def downN (n j Q : Nat) : List Nat := List.replicate j 0 ++ digN (n - j) Q
theorem downN_all (n Q : Nat) : downN n n Q = List.replicate n 0 := by simp [downN, digN]
theorem downN_zero (n Q : Nat) : downN n 0 Q = digN n Q := by simp [downN]
theorem downN_get (n j Q : Nat) : (downN n (j + 1) Q)[j]? = some 0 := by
  unfold downN
  rw [List.getElem?_append_left (by simp)]
  simp
theorem downN_step (n j x Q : Nat) (hj : j < n) (hx : x < 4294967296) : (downN n (j + 1) Q).set j x = downN n j (x + 4294967296 * Q) := by
  unfold downN
  rw [show n - j = (n - (j + 1)) + 1 from by omega, digN_cons _ _ _ hx, List.set_append_left _ _ (by simp)]
  rw [List.replicate_succ', List.set_append_right _ _ (by simp)]
  simp

end Go.Proofs.YtekajoifgdpmlaaGreatDoor.Pl
