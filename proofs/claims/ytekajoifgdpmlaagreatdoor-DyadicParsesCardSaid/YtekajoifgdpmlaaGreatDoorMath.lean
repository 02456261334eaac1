/- Plain arithmetic of limbs: lists of natural numbers to the base 2^32, the least significant one first. No program in sight. -/
namespace Go.Proofs.YtekajoifgdpmlaaGreatDoor.Pl

/-- The number of some limbs. -/
def val : List Nat → Nat
  | [] => 0
  | x :: l => x + 4294967296 * val l

def digsF : Nat → Nat → List Nat
  | 0, _ => []
  | f + 1, n => if n = 0 then [] else n % 4294967296 :: digsF f (n / 4294967296)
/-- The limbs of a number, without zeros at the top. -/
def digs (n : Nat) : List Nat := digsF n n

def Limbs (l : List Nat) : Prop := ∀ x ∈ l, x < 4294967296

theorem digsF_enough (f g n : Nat) (hf : n ≤ f) (hg : n ≤ g) : digsF f n = digsF g n := by
  induction f generalizing g n with
  | zero => obtain rfl : n = 0 := by omega
            cases g <;> simp [digsF]
  | succ f ih =>
    cases g with
    | zero => obtain rfl : n = 0 := by omega
              simp [digsF]
    | succ g =>
      simp only [digsF]
      split
      · rfl
      · rw [ih g (n / 4294967296) (by omega) (by omega)]

theorem digs_zero : digs 0 = [] := rfl
theorem digs_pos (n : Nat) (h : 0 < n) : digs n = n % 4294967296 :: digs (n / 4294967296) := by
  unfold digs
  obtain ⟨k, rfl⟩ : ∃ k, n = k + 1 := ⟨n - 1, by omega⟩
  rw [show digsF (k + 1) (k + 1) = if k + 1 = 0 then [] else (k + 1) % 4294967296 :: digsF k ((k + 1) / 4294967296) from rfl, if_neg (by omega)]
  rw [digsF_enough k ((k + 1) / 4294967296) ((k + 1) / 4294967296) (by omega) (by omega)]

theorem val_digs (n : Nat) : val (digs n) = n := by
  induction n using Nat.strongRecOn with
  | ind n ih =>
    by_cases h : 0 < n
    · rw [digs_pos n h, val, ih (n / 4294967296) (by omega)]; omega
    · obtain rfl : n = 0 := by omega
      rfl

theorem limbs_digs (n : Nat) : Limbs (digs n) := by
  induction n using Nat.strongRecOn with
  | ind n ih =>
    by_cases h : 0 < n
    · rw [digs_pos n h]
      intro x hx
      rcases List.mem_cons.1 hx with rfl | hx
      · omega
      · exact ih (n / 4294967296) (by omega) x hx
    · obtain rfl : n = 0 := by omega
      intro x hx; simp [digs_zero] at hx

theorem digs_cons (x v : Nat) (hx : x < 4294967296) (h : 0 < x + 4294967296 * v) : digs (x + 4294967296 * v) = x :: digs v := by
  rw [digs_pos _ h]
  congr 1
  · omega
  · congr 1; omega

theorem Limbs.tail {x : Nat} {l : List Nat} (h : Limbs (x :: l)) : Limbs l := fun y hy => h y (List.mem_cons_of_mem _ hy)
theorem Limbs.head {x : Nat} {l : List Nat} (h : Limbs (x :: l)) : x < 4294967296 := h x (List.mem_cons_self ..)
theorem Limbs.take {l : List Nat} (h : Limbs l) (k : Nat) : Limbs (l.take k) := fun x hx => h x (List.mem_of_mem_take hx)
theorem Limbs.drop {l : List Nat} (h : Limbs l) (k : Nat) : Limbs (l.drop k) := fun x hx => h x (List.mem_of_mem_drop hx)
theorem Limbs.append {l m : List Nat} (h : Limbs l) (h' : Limbs m) : Limbs (l ++ m) := fun x hx => (List.mem_append.1 hx).elim (h x) (h' x)
theorem Limbs.nil : Limbs [] := fun x hx => by cases hx
theorem Limbs.single {x : Nat} (h : x < 4294967296) : Limbs [x] := fun y hy => by rw [List.mem_singleton.1 hy]; exact h
theorem Limbs.get {l : List Nat} (h : Limbs l) {i x : Nat} (hi : l[i]? = some x) : x < 4294967296 := h x (List.mem_of_getElem? hi)

theorem val_append (l m : List Nat) : val (l ++ m) = val l + 4294967296 ^ l.length * val m := by
  induction l with
  | nil => simp [val]
  | cons x l ih =>
    rw [List.cons_append, val, ih, val, List.length_cons, Nat.pow_succ, Nat.mul_add, Nat.mul_comm (4294967296 ^ l.length) 4294967296, Nat.mul_assoc]
    omega
theorem val_single (x : Nat) : val [x] = x := by simp [val]
theorem val_snoc (l : List Nat) (x : Nat) : val (l ++ [x]) = val l + 4294967296 ^ l.length * x := by rw [val_append, val_single]
theorem val_take_succ (l : List Nat) (k x : Nat) (h : l[k]? = some x) : val (l.take (k + 1)) = val (l.take k) + 4294967296 ^ k * x := by
  have hk : k < l.length := by
    rcases Nat.lt_or_ge k l.length with h' | h'
    · exact h'
    · rw [List.getElem?_eq_none h'] at h; cases h
  have hx : l[k] = x := by rw [List.getElem?_eq_getElem hk] at h; injection h
  rw [List.take_succ_eq_append_getElem hk, val_snoc, hx, List.length_take, Nat.min_eq_left (by omega)]
theorem val_take_drop (l : List Nat) (k : Nat) : val l = val (l.take k) + 4294967296 ^ (l.take k).length * val (l.drop k) := by
  rw [← val_append, List.take_append_drop]
theorem val_lt (l : List Nat) (h : Limbs l) : val l < 4294967296 ^ l.length := by
  induction l with
  | nil => simp [val]
  | cons x l ih =>
    have := ih h.tail
    have hx := h.head
    rw [val, List.length_cons, Nat.pow_succ]
    omega
theorem val_zero_of {l : List Nat} (h : ∀ x ∈ l, x = 0) : val l = 0 := by
  induction l with
  | nil => rfl
  | cons x l ih => rw [val, ih (fun y hy => h y (List.mem_cons_of_mem _ hy)), h x (List.mem_cons_self ..)]

/-- Limbs without a zero at the top. -/
def Trim (l : List Nat) : Prop := l.getLast? ≠ some 0

theorem digs_val (l : List Nat) (h : Limbs l) (ht : Trim l) : digs (val l) = l := by
  induction l with
  | nil => rfl
  | cons x l ih =>
    have hx := h.head
    cases l with
    | nil =>
      have h0 : x ≠ 0 := by
        rintro rfl
        exact ht rfl
      rw [val, digs_cons x _ hx (by omega)]; rfl
    | cons y l =>
      have ht' : Trim (y :: l) := by
        unfold Trim at ht ⊢
        rwa [List.getLast?_cons_cons] at ht
      have e := ih h.tail ht'
      have hp : 0 < val (y :: l) := by
        rcases Nat.eq_zero_or_pos (val (y :: l)) with h0 | h0
        · rw [h0] at e; cases e
        · exact h0
      rw [val, digs_cons x _ hx (by omega), e]

theorem trim_digs (n : Nat) : Trim (digs n) := by
  induction n using Nat.strongRecOn with
  | ind n ih =>
    by_cases h : 0 < n
    · rw [digs_pos n h]
      unfold Trim
      by_cases h2 : 0 < n / 4294967296
      · have := ih (n / 4294967296) (by omega)
        rw [digs_pos _ h2] at this ⊢
        unfold Trim at this
        rwa [List.getLast?_cons_cons]
      · have h0 : n / 4294967296 = 0 := by omega
        rw [h0, digs_zero]
        simp
        omega
    · obtain rfl : n = 0 := by omega
      simp [Trim, digs_zero]

theorem digs_inj {a b : Nat} (h : digs a = digs b) : a = b := by rw [← val_digs a, ← val_digs b, h]

theorem digs_length_lt (n k : Nat) (h : n < 4294967296 ^ k) : (digs n).length ≤ k := by
  induction k generalizing n with
  | zero => obtain rfl : n = 0 := by simp at h; omega
            simp [digs_zero]
  | succ k ih =>
    by_cases hp : 0 < n
    · rw [digs_pos n hp, List.length_cons]
      have := ih (n / 4294967296) (by rw [Nat.pow_succ] at h; omega)
      omega
    · obtain rfl : n = 0 := by omega
      simp [digs_zero]
theorem lt_digs_length (n : Nat) : n < 4294967296 ^ (digs n).length := by
  have := val_lt (digs n) (limbs_digs n)
  rwa [val_digs] at this
theorem le_digs_length (n : Nat) (h : 0 < n) : 4294967296 ^ ((digs n).length - 1) ≤ n := by
  induction n using Nat.strongRecOn with
  | ind n ih =>
    rw [digs_pos n h, List.length_cons, Nat.add_sub_cancel]
    by_cases h2 : 0 < n / 4294967296
    · have := ih (n / 4294967296) (by omega) h2
      have hl : 0 < (digs (n / 4294967296)).length := by rw [digs_pos _ h2]; simp
      obtain ⟨k, hk⟩ : ∃ k, (digs (n / 4294967296)).length = k + 1 := ⟨_ - 1, (Nat.succ_pred_eq_of_pos hl).symm⟩
      rw [hk] at this ⊢
      simp only [Nat.add_sub_cancel] at this
      rw [Nat.pow_succ]; omega
    · have h0 : n / 4294967296 = 0 := by omega
      rw [h0, digs_zero]; simp; omega

theorem digs_val_len (l : List Nat) (h : Limbs l) : (digs (val l)).length ≤ l.length := digs_length_lt _ _ (val_lt l h)

/-- What a loop that drops zeros at the top leaves. -/
theorem take_trim (l : List Nat) (h : Limbs l) (k : Nat) (hk : k ≤ l.length) (hz : ∀ j, k ≤ j → j < l.length → l[j]? = some 0) (he : k = 0 ∨ l[k - 1]? ≠ some 0) : l.take k = digs (val l) := by
  have hd : val (l.drop k) = 0 := val_zero_of (by
    intro x hx
    obtain ⟨i, hi, rfl⟩ := List.mem_iff_getElem.1 hx
    have hi' : k + i < l.length := by rw [List.length_drop] at hi; omega
    have := hz (k + i) (by omega) hi'
    rw [List.getElem?_eq_getElem hi'] at this
    rw [List.getElem_drop]
    injection this)
  have hv : val l = val (l.take k) := by rw [val_take_drop l k, hd]; omega
  rw [hv, digs_val _ (h.take k)]
  unfold Trim
  rcases he with rfl | he
  · simp
  · by_cases h0 : k = 0
    · subst h0; simp
    · rw [List.getLast?_eq_getElem?, List.length_take, Nat.min_eq_left hk, List.getElem?_take_of_lt (by omega)]
      exact he
/-- The limbs of a list are its first ones, and zeros behind them. -/
theorem digs_take (l : List Nat) (h : Limbs l) : l.take (digs (val l)).length = digs (val l) := by
  suffices H : ∀ n, n ≤ l.length → (∀ j, n ≤ j → j < l.length → l[j]? = some 0) → ∃ k, k ≤ l.length ∧ (∀ j, k ≤ j → j < l.length → l[j]? = some 0) ∧ (k = 0 ∨ l[k - 1]? ≠ some 0) by
    obtain ⟨k, hk, hz, he⟩ := H l.length (Nat.le_refl _) (fun j h1 h2 => absurd h2 (by omega))
    have e := take_trim l h k hk hz he
    have : (digs (val l)).length = k := by rw [← e, List.length_take, Nat.min_eq_left hk]
    rw [this, e]
  intro n
  induction n with
  | zero => intro hn hz; exact ⟨0, hn, hz, .inl rfl⟩
  | succ n ih =>
    intro hn hz
    by_cases hl : l[n]? = some 0
    · exact ih (by omega) (fun j h1 h2 => by
        rcases Nat.eq_or_lt_of_le h1 with rfl | h1
        · exact hl
        · exact hz j h1 h2)
    · exact ⟨n + 1, hn, hz, .inr hl⟩

/-- The number of the bits of a number. -/
def blen (n : Nat) : Nat := if n = 0 then 0 else n.log2 + 1

theorem blen_zero : blen 0 = 0 := rfl
theorem lt_blen (n : Nat) : n < 2 ^ blen n := by
  unfold blen
  split
  · omega
  · exact Nat.lt_log2_self
theorem le_blen (n : Nat) (h : 0 < n) : 2 ^ (blen n - 1) ≤ n := by
  unfold blen
  rw [if_neg (by omega), Nat.add_sub_cancel]
  exact Nat.log2_self_le (by omega)
theorem blen_pos (n : Nat) (h : 0 < n) : 0 < blen n := by unfold blen; rw [if_neg (by omega)]; omega
theorem pow2_lt {a b : Nat} (h : 2 ^ a < 2 ^ b) : a < b := (Nat.pow_lt_pow_iff_right (by omega)).1 h
theorem blen_le_of (n k : Nat) (h : n < 2 ^ k) : blen n ≤ k := by
  rcases Nat.eq_zero_or_pos n with rfl | h0
  · simp [blen]
  · have h1 := le_blen n h0
    have h2 := blen_pos n h0
    have := pow2_lt (Nat.lt_of_le_of_lt h1 h)
    omega
theorem lt_blen_of (n k : Nat) (h : 2 ^ k ≤ n) : k < blen n := pow2_lt (Nat.lt_of_le_of_lt h (lt_blen n))
theorem blen_eq (n k : Nat) (h1 : 2 ^ k ≤ n) (h2 : n < 2 ^ (k + 1)) : blen n = k + 1 := by
  have := blen_le_of n (k + 1) h2
  have := lt_blen_of n k h1
  omega
theorem base_pow (k : Nat) : 4294967296 ^ k = 2 ^ (32 * k) := by rw [Nat.pow_mul]
theorem blen_mul_pow (n k : Nat) (h : 0 < n) : blen (n * 2 ^ k) = blen n + k := by
  have h1 := le_blen n h
  have h2 := lt_blen n
  have h3 := blen_pos n h
  obtain ⟨b, hb⟩ : ∃ b, blen n = b + 1 := ⟨blen n - 1, by omega⟩
  rw [hb] at h1 h2 ⊢
  rw [Nat.add_sub_cancel] at h1
  have := blen_eq (n * 2 ^ k) (b + k) (by rw [Nat.pow_add]; exact Nat.mul_le_mul_right _ h1) (by
    rw [show b + k + 1 = b + 1 + k from by omega, Nat.pow_add]; exact Nat.mul_lt_mul_of_pos_right h2 (Nat.two_pow_pos k))
  omega

/-- The bits of trimmed limbs, by the top one. -/
theorem blen_top (l : List Nat) (h : Limbs l) (k x b : Nat) (hl : l.length = k + 1) (hx : l[k]? = some x) (h1 : 2 ^ b ≤ x) (h2 : x < 2 ^ (b + 1)) : blen (val l) = 32 * k + (b + 1) := by
  have e : val l = val (l.take k) + 4294967296 ^ k * x := by
    have := val_take_succ l k x hx
    rwa [List.take_of_length_le (by omega)] at this
  have hlt : val (l.take k) < 4294967296 ^ k := by
    have := val_lt (l.take k) (h.take k)
    rwa [List.length_take, Nat.min_eq_left (by omega)] at this
  rw [e]
  rw [base_pow] at hlt ⊢
  have := blen_eq (val (l.take k) + 2 ^ (32 * k) * x) (32 * k + b) (by
    rw [Nat.pow_add]
    have := Nat.mul_le_mul_left (2 ^ (32 * k)) h1
    omega) (by
    rw [show 32 * k + b + 1 = 32 * k + (b + 1) from by omega, Nat.pow_add]
    have : 2 ^ (32 * k) * (x + 1) ≤ 2 ^ (32 * k) * 2 ^ (b + 1) := Nat.mul_le_mul_left _ h2
    rw [Nat.mul_add] at this
    omega)
  omega

/-- How two numbers compare. -/
def cmpN (x y : Nat) : Int := if x < y then -1 else if y < x then 1 else 0

theorem lt_of_digs_len {x y : Nat} (h : (digs x).length < (digs y).length) : x < y := by
  rcases Nat.lt_or_ge x y with h' | h'
  · exact h'
  · have := digs_length_lt y (digs x).length (Nat.lt_of_le_of_lt h' (lt_digs_length x))
    omega
theorem val_lt_of_top {l m : List Nat} (hl : Limbs l) {k x y : Nat} (hlen : l.length = m.length) (hd : l.drop (k + 1) = m.drop (k + 1)) (hx : l[k]? = some x) (hy : m[k]? = some y) (hxy : x < y) : val l < val m := by
  have hk : k < l.length := by
    rcases Nat.lt_or_ge k l.length with h' | h'
    · exact h'
    · rw [List.getElem?_eq_none h'] at hx; cases hx
  have e1 := val_take_succ l k x hx
  have e2 := val_take_succ m k y hy
  have hlt := val_lt (l.take k) (hl.take k)
  rw [List.length_take, Nat.min_eq_left (by omega)] at hlt
  rw [val_take_drop l (k + 1), val_take_drop m (k + 1), hd, List.length_take, List.length_take, hlen, e1, e2]
  have : 4294967296 ^ k * (x + 1) ≤ 4294967296 ^ k * y := Nat.mul_le_mul_left _ hxy
  rw [Nat.mul_add] at this
  omega
theorem cmpN_lt {x y : Nat} (h : x < y) : cmpN x y = -1 := by simp [cmpN, h]
theorem cmpN_gt {x y : Nat} (h : y < x) : cmpN x y = 1 := by unfold cmpN; rw [if_neg (by omega), if_pos h]
theorem cmpN_eq {x y : Nat} (h : x = y) : cmpN x y = 0 := by unfold cmpN; rw [if_neg (by omega), if_neg (by omega)]

end Go.Proofs.YtekajoifgdpmlaaGreatDoor.Pl
