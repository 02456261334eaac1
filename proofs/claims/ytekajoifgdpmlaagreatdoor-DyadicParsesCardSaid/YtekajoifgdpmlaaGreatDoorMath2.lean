/- Plain arithmetic of limbs, second part: the digits of a number, trailing zeros, shifts. No program in sight. -/
import Derived.Test.YtekajoifgdpmlaaGreatDoorMath
namespace Go.Proofs.YtekajoifgdpmlaaGreatDoor.Pl

/-- Digit i of a number. -/
def dig (v i : Nat) : Nat := v / 4294967296 ^ i % 4294967296
/-- The lowest n digits of a number. -/
def digN (n v : Nat) : List Nat := (List.range n).map (dig v)

theorem pow_pos' (i : Nat) : 0 < 4294967296 ^ i := Nat.pow_pos (by omega)
theorem digN_length (n v : Nat) : (digN n v).length = n := by simp [digN]
theorem digN_get {n v i : Nat} (h : i < n) : (digN n v)[i]? = some (dig v i) := by simp [digN, h]
theorem dig_lt (v i : Nat) : dig v i < 4294967296 := Nat.mod_lt _ (by omega)
theorem limbs_digN (n v : Nat) : Limbs (digN n v) := by
  intro x hx
  obtain ⟨i, _, rfl⟩ := List.mem_map.1 hx
  exact dig_lt v i
theorem digN_succ (n v : Nat) : digN (n + 1) v = digN n v ++ [dig v n] := by simp [digN, List.range_succ]
theorem val_digN (n v : Nat) : val (digN n v) = v % 4294967296 ^ n := by
  induction n with
  | zero => simp [digN, val, Nat.mod_one]
  | succ n ih =>
    rw [digN_succ, val_snoc, ih, digN_length, dig, Nat.pow_succ, Nat.mod_mul]
theorem val_digN_of_lt {n v : Nat} (h : v < 4294967296 ^ n) : val (digN n v) = v := by rw [val_digN, Nat.mod_eq_of_lt h]
theorem val_replicate (n : Nat) : val (List.replicate n 0) = 0 := val_zero_of (fun _ hx => List.eq_of_mem_replicate hx)
theorem limbs_replicate (n : Nat) : Limbs (List.replicate n 0) := fun x hx => by rw [List.eq_of_mem_replicate hx]; omega

/-- A row that is filled from its bottom on. -/
def fillN (n v i : Nat) : List Nat := digN i v ++ List.replicate (n - i) 0
theorem fillN_zero (n v : Nat) : fillN n v 0 = List.replicate n 0 := by simp [fillN, digN]
theorem fillN_all (n v : Nat) : fillN n v n = digN n v := by simp [fillN]
theorem fillN_length {n v i : Nat} (h : i ≤ n) : (fillN n v i).length = n := by simp [fillN, digN_length]; omega
theorem fillN_step {n v i : Nat} (h : i < n) : (fillN n v i).set i (dig v i) = fillN n v (i + 1) := by
  unfold fillN
  rw [List.set_append_right _ _ (by rw [digN_length]; omega), digN_length, Nat.sub_self, digN_succ, List.append_assoc]
  congr 1
  obtain ⟨k, hk⟩ : ∃ k, n - i = k + 1 := ⟨n - i - 1, by omega⟩
  rw [hk, show n - (i + 1) = k from by omega, List.replicate_succ]
  rfl
theorem fillN_get {n v i : Nat} (h : i < n) : (fillN n v i)[i]? = some 0 := by
  unfold fillN
  rw [List.getElem?_append_right (by rw [digN_length]; omega), digN_length, Nat.sub_self]
  obtain ⟨k, hk⟩ : ∃ k, n - i = k + 1 := ⟨n - i - 1, by omega⟩
  rw [hk, List.replicate_succ]; rfl

theorem val_drop (l : List Nat) (h : Limbs l) (k : Nat) (hk : k ≤ l.length) : val (l.drop k) = val l / 4294967296 ^ k := by
  have e := val_take_drop l k
  have hlt := val_lt (l.take k) (h.take k)
  rw [List.length_take, Nat.min_eq_left hk] at e hlt
  rw [e, Nat.add_mul_div_left _ _ (pow_pos' k), Nat.div_eq_of_lt hlt, Nat.zero_add]
theorem val_drop_cons (l : List Nat) (i x : Nat) (hx : l[i]? = some x) : val (l.drop i) = x + 4294967296 * val (l.drop (i + 1)) := by
  have hi : i < l.length := by
    rcases Nat.lt_or_ge i l.length with h' | h'
    · exact h'
    · rw [List.getElem?_eq_none h'] at hx; cases hx
  rw [List.drop_eq_getElem_cons hi, val]
  rw [List.getElem?_eq_getElem hi] at hx
  injection hx with hx
  rw [hx]
theorem dig_val (l : List Nat) (h : Limbs l) (i x : Nat) (hx : l[i]? = some x) : dig (val l) i = x := by
  have hi : i < l.length := by
    rcases Nat.lt_or_ge i l.length with h' | h'
    · exact h'
    · rw [List.getElem?_eq_none h'] at hx; cases hx
  have := h.get hx
  rw [dig, ← val_drop l h i (by omega), val_drop_cons l i x hx]
  omega

/-! Trailing zeros -/
def tzF : Nat → Nat → Nat
  | 0, _ => 0
  | f + 1, n => if n % 2 = 1 then 0 else 1 + tzF f (n / 2)
/-- The number of the zero bits at the bottom. -/
def tz (n : Nat) : Nat := tzF n n
theorem tzF_spec (f n : Nat) (h0 : 0 < n) (hf : n ≤ f) : ∃ m, n = 2 ^ tzF f n * (2 * m + 1) := by
  induction f generalizing n with
  | zero => omega
  | succ f ih =>
    unfold tzF
    split
    · exact ⟨n / 2, by omega⟩
    · obtain ⟨m, hm⟩ := ih (n / 2) (by omega) (by omega)
      refine ⟨m, ?_⟩
      rw [Nat.add_comm 1, Nat.pow_succ, Nat.mul_assoc, Nat.mul_comm 2, ← Nat.mul_assoc, ← hm]
      omega
theorem tz_spec (n : Nat) (h0 : 0 < n) : ∃ m, n = 2 ^ tz n * (2 * m + 1) := tzF_spec n n h0 (Nat.le_refl _)
theorem odd_pow_unique {a b m k : Nat} (h : 2 ^ a * (2 * m + 1) = 2 ^ b * (2 * k + 1)) : a = b := by
  induction a generalizing b with
  | zero =>
    cases b with
    | zero => rfl
    | succ b => rw [Nat.pow_succ, Nat.mul_comm (2 ^ b), Nat.mul_assoc] at h; omega
  | succ a ih =>
    cases b with
    | zero => rw [Nat.pow_succ, Nat.mul_comm (2 ^ a), Nat.mul_assoc] at h; omega
    | succ b =>
      rw [Nat.pow_succ, Nat.mul_comm (2 ^ a), Nat.mul_assoc, Nat.pow_succ, Nat.mul_comm (2 ^ b), Nat.mul_assoc] at h
      rw [ih (Nat.eq_of_mul_eq_mul_left (by omega : 0 < 2) h)]
theorem tz_eq {n a m : Nat} (h : n = 2 ^ a * (2 * m + 1)) : tz n = a := by
  have h0 : 0 < n := by rw [h]; exact Nat.mul_pos (Nat.two_pow_pos a) (by omega)
  obtain ⟨k, hk⟩ := tz_spec n h0
  exact odd_pow_unique (hk.symm.trans h)
theorem tz_odd {n : Nat} (h : n % 2 = 1) : tz n = 0 := tz_eq (m := n / 2) (by omega)
/-- The odd part. -/
def oddp (n : Nat) : Nat := n / 2 ^ tz n
theorem oddp_spec (n : Nat) (h0 : 0 < n) : n = oddp n * 2 ^ tz n ∧ oddp n % 2 = 1 := by
  obtain ⟨m, hm⟩ := tz_spec n h0
  have : oddp n = 2 * m + 1 := by
    unfold oddp
    conv => lhs; lhs; rw [hm]
    exact Nat.mul_div_cancel_left _ (Nat.two_pow_pos _)
  rw [this]
  exact ⟨by rw [Nat.mul_comm]; exact hm, by omega⟩
theorem tz_lt_blen (n : Nat) (h : 0 < n) : tz n < blen n := by
  have e := (oddp_spec n h).1
  have ho := (oddp_spec n h).2
  exact lt_blen_of n (tz n) (by
    have : 1 * 2 ^ tz n ≤ oddp n * 2 ^ tz n := Nat.mul_le_mul_right _ (by omega)
    omega)
/-- What a search for the lowest limb that is not 0 finds. -/
theorem tz_low (l : List Nat) (i x c m : Nat) (hz : ∀ j, j < i → l[j]? = some 0) (hx : l[i]? = some x) (hc : c < 32) (hm : x = 2 ^ c * (2 * m + 1)) : tz (val l) = 32 * i + c := by
  have hi : i < l.length := by
    rcases Nat.lt_or_ge i l.length with h' | h'
    · exact h'
    · rw [List.getElem?_eq_none h'] at hx; cases hx
  have h0 : val (l.take i) = 0 := val_zero_of (by
    intro y hy
    obtain ⟨j, hj, rfl⟩ := List.mem_iff_getElem.1 hy
    rw [List.length_take] at hj
    have := hz j (by omega)
    rw [List.getElem?_eq_getElem (by omega)] at this
    rw [List.getElem_take]
    injection this)
  have e := val_take_drop l i
  rw [h0, Nat.zero_add, List.length_take, Nat.min_eq_left (by omega), val_drop_cons l i x hx, base_pow] at e
  obtain ⟨r, hr⟩ : ∃ r, 32 = c + (r + 1) := ⟨31 - c, by omega⟩
  have hB : 4294967296 = 2 ^ c * (2 * 2 ^ r) := by
    rw [show (4294967296 : Nat) = 2 ^ 32 from rfl, hr, Nat.pow_add, Nat.pow_succ, Nat.mul_comm (2 ^ r)]
  refine tz_eq (m := m + 2 ^ r * val (l.drop (i + 1))) ?_
  rw [e, Nat.pow_add, Nat.mul_assoc]
  congr 1
  rw [hm]
  conv => lhs; rw [hB]
  rw [Nat.mul_assoc (2 ^ c), ← Nat.mul_add]
  congr 1
  rw [Nat.mul_add, Nat.mul_assoc]
  omega

/-! Shifts to the right -/
theorem mod_shift (x V p q : Nat) (hp : 0 < p) (hpq : p * q = 4294967296) : (x + 4294967296 * V) / p % 4294967296 = (x + 4294967296 * (V % 4294967296)) / p % 4294967296 := by
  have hV : 4294967296 * V = 4294967296 * (V % 4294967296) + p * (q * 4294967296 * (V / 4294967296)) := by
    have : 4294967296 * (V / 4294967296) + V % 4294967296 = V := Nat.div_add_mod V 4294967296
    rw [← Nat.mul_assoc, ← Nat.mul_assoc, hpq, Nat.mul_assoc, ← Nat.mul_add]
    congr 1; omega
  rw [hV, ← Nat.add_assoc, Nat.add_mul_div_left _ _ hp, Nat.mul_comm q, Nat.mul_assoc, Nat.add_mul_mod_self_left]
theorem dig_shr (d : List Nat) (h : Limbs d) (r i x y : Nat) (hr : r < 32) (hx : d[i]? = some x) (hy : (d[i + 1]?).getD 0 = y) :
    dig (val d / 2 ^ r) i = (x + 4294967296 * y) / 2 ^ r % 4294967296 := by
  have hi : i < d.length := by
    rcases Nat.lt_or_ge i d.length with h' | h'
    · exact h'
    · rw [List.getElem?_eq_none h'] at hx; cases hx
  have hpq : 2 ^ r * 2 ^ (32 - r) = 4294967296 := by rw [← Nat.pow_add, show r + (32 - r) = 32 from by omega]
  rw [dig, Nat.div_div_eq_div_mul, Nat.mul_comm, ← Nat.div_div_eq_div_mul, ← val_drop d h i (by omega), val_drop_cons d i x hx, mod_shift x _ _ _ (Nat.two_pow_pos r) hpq]
  congr 4
  by_cases h1 : i + 1 < d.length
  · have hz : d[i + 1]? = some d[i + 1] := List.getElem?_eq_getElem h1
    rw [val_drop_cons d (i + 1) _ hz]
    have := h.get hz
    rw [hz] at hy
    simp at hy
    omega
  · rw [List.getElem?_eq_none (by omega)] at hy
    rw [List.drop_of_length_le (by omega)]
    simp [val] at hy ⊢
    omega

/-! Bits by their places -/
theorem bit_at (l : List Nat) (h : Limbs l) (k x : Nat) (hx : l[k / 32]? = some x) : x / 2 ^ (k % 32) % 2 = val l / 2 ^ k % 2 := by
  have hi : k / 32 < l.length := by
    rcases Nat.lt_or_ge (k / 32) l.length with h' | h'
    · exact h'
    · rw [List.getElem?_eq_none h'] at hx; cases hx
  have e : val l / 2 ^ k = (x + 4294967296 * val (l.drop (k / 32 + 1))) / 2 ^ (k % 32) := by
    rw [← val_drop_cons l (k / 32) x hx, val_drop l h (k / 32) (by omega), Nat.div_div_eq_div_mul, base_pow, ← Nat.pow_add, show 32 * (k / 32) + k % 32 = k from by omega]
  rw [e]
  obtain ⟨r, hr⟩ : ∃ r, 32 = k % 32 + (r + 1) := ⟨31 - k % 32, by omega⟩
  have hB : 4294967296 = 2 ^ (k % 32) * (2 * 2 ^ r) := by
    rw [show (4294967296 : Nat) = 2 ^ 32 from rfl]
    conv => lhs; rw [hr]
    rw [Nat.pow_add, Nat.pow_succ, Nat.mul_comm (2 ^ r)]
  generalize val (l.drop (k / 32 + 1)) = V
  have e2 : 4294967296 * V = 2 ^ (k % 32) * (2 * (2 ^ r * V)) := by
    conv => lhs; rw [hB]
    rw [Nat.mul_assoc, Nat.mul_assoc]
  rw [e2, Nat.add_mul_div_left _ _ (Nat.two_pow_pos _)]
  omega
theorem bit_tz (v k : Nat) (hv : 0 < v) (hk : k ≤ tz v) : v / 2 ^ k % 2 = 1 ↔ k = tz v := by
  obtain ⟨e, ho⟩ := oddp_spec v hv
  have h1 : v / 2 ^ k = oddp v * 2 ^ (tz v - k) := by
    conv => lhs; rw [e]
    rw [show tz v = (tz v - k) + k from by omega, Nat.pow_add, ← Nat.mul_assoc, Nat.mul_div_cancel _ (Nat.two_pow_pos k)]
    rw [show tz v - k + k - k = tz v - k from by omega]
  rw [h1]
  constructor
  · intro h
    rcases Nat.eq_or_lt_of_le hk with h' | h'
    · exact h'
    · obtain ⟨t, ht⟩ : ∃ t, tz v - k = t + 1 := ⟨tz v - k - 1, by omega⟩
      rw [ht, Nat.pow_succ, ← Nat.mul_assoc] at h
      omega
  · intro h
    rw [h, Nat.sub_self, Nat.pow_zero, Nat.mul_one]
    exact ho
theorem tz_index (l : List Nat) (h : Limbs l) (hv : 0 < val l) : tz (val l) / 32 < l.length := by
  have h1 := tz_lt_blen (val l) hv
  have h2 := val_lt l h
  rw [base_pow] at h2
  have := blen_le_of _ _ h2
  omega
theorem blen_half (x : Nat) (h : 0 < x) : blen x = blen (x / 2) + 1 := by
  by_cases h1 : x = 1
  · subst h1; decide
  · have := blen_mul_pow (x / 2) 1 (by omega)
    have e1 := le_blen (x / 2) (by omega)
    have e2 := lt_blen (x / 2)
    have e3 := blen_pos (x / 2) (by omega)
    obtain ⟨b, hb⟩ : ∃ b, blen (x / 2) = b + 1 := ⟨blen (x / 2) - 1, by omega⟩
    rw [hb] at e1 e2 ⊢
    rw [Nat.add_sub_cancel] at e1
    exact blen_eq x (b + 1) (by rw [Nat.pow_succ]; omega) (by rw [Nat.pow_succ]; omega)

/-- How two lists of limbs compare: first by their lengths. -/
def cmpL (a b : List Nat) : Int := if a.length < b.length then -1 else if b.length < a.length then 1 else cmpN (val a) (val b)
theorem list_of_val {l m : List Nat} (hl : Limbs l) (hm : Limbs m) (hlen : l.length = m.length) (h : val l = val m) : l = m := by
  induction l generalizing m with
  | nil => cases m with
    | nil => rfl
    | cons y m => simp at hlen
  | cons x l ih =>
    cases m with
    | nil => simp at hlen
    | cons y m =>
      rw [val, val] at h
      have := hl.head
      have := hm.head
      rw [ih hl.tail hm.tail (by simpa using hlen) (by omega), show x = y from by omega]
theorem cmpL_trim {a b : List Nat} (ha : Limbs a) (hb : Limbs b) (ta : Trim a) (tb : Trim b) : cmpL a b = cmpN (val a) (val b) := by
  unfold cmpL
  have e1 := digs_val a ha ta
  have e2 := digs_val b hb tb
  split
  · rw [cmpN_lt (lt_of_digs_len (by rw [e1, e2]; assumption))]
  · split
    · rw [cmpN_gt (lt_of_digs_len (by rw [e1, e2]; assumption))]
    · rfl

end Go.Proofs.YtekajoifgdpmlaaGreatDoor.Pl
