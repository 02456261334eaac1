/- Numbers as integers: a number times 2^K. Sums, products, scaled numbers and the order are those of the integers. -/
import Derived.Test.YtekajoifgdpmlaaGreatDoorE4
import Derived.Test.YtekajoifgdpmlaaGreatDoorE6
import Derived.Test.YtekajoifgdpmlaaGreatDoorM7
namespace Go.Proofs.YtekajoifgdpmlaaGreatDoor
open Go.RowKit Pl Go.Shelf

/-- v 2^(e + K). -/
def za (K v : Nat) (e : Int) : Nat := v * 2 ^ (e + (K : Int)).toNat
/-- (-1)^neg v 2^(e + K). -/
def zs (K : Nat) (neg : Bool) (v : Nat) (e : Int) : Int := if neg then -(za K v e : Int) else (za K v e : Int)
def zd (K : Nat) (d : Dy) : Int := zs K d.neg (val d.l) d.e

theorem za_shift (K v k : Nat) (e : Int) (h : 0 ≤ e + (K : Int)) : za K (v * 2 ^ k) e = za K v (e + (k : Int)) := by
  unfold za
  rw [show (e + (k : Int) + (K : Int)).toNat = k + (e + (K : Int)).toNat by omega, Nat.pow_add, Nat.mul_assoc]
theorem zs_shift (K : Nat) (neg : Bool) (v k : Nat) (e : Int) (h : 0 ≤ e + (K : Int)) : zs K neg (v * 2 ^ k) e = zs K neg v (e + (k : Int)) := by
  unfold zs
  rw [za_shift K v k e h]
theorem za_zero (K : Nat) (e : Int) : za K 0 e = 0 := by simp [za]
theorem zs_zero (K : Nat) (neg : Bool) (e : Int) : zs K neg 0 e = 0 := by simp [zs, za_zero]
theorem za_pos {K v : Nat} {e : Int} (h : 0 < v) : 0 < za K v e := Nat.mul_pos h (Nat.pow_pos (by omega))

/-- A canonical form. -/
def Canon (d : Dy) : Prop := Limbs d.l ∧ ((d.l = [] ∧ d.neg = false ∧ d.e = 0) ∨ (Trim d.l ∧ val d.l % 2 = 1))

theorem canon_canon (neg : Bool) (v : Nat) (e : Int) : Canon (canonD neg v e) := by
  by_cases h : v = 0
  · subst h
    exact ⟨Limbs.nil, .inl ⟨rfl, rfl, rfl⟩⟩
  · rw [canon_pos (by omega)]
    refine ⟨limbs_digs _, .inr ⟨trim_digs _, ?_⟩⟩
    simp only [val_digs]
    exact (oddp_spec v (by omega)).2
theorem canon_of {d : Dy} (hL : Limbs d.l) (hv : vld d = true) : Canon d := by
  obtain ⟨neg, l, x⟩ := d
  refine ⟨hL, ?_⟩
  by_cases h : l = []
  · subst h
    obtain ⟨rfl, rfl⟩ := vld_empty hv
    exact .inl ⟨rfl, rfl, rfl⟩
  · have := vld_bounds hv h
    exact .inr ⟨this.2.1, this.2.2.1⟩
theorem zd_canon (K : Nat) (neg : Bool) (v : Nat) (e : Int) (h : 0 ≤ e + (K : Int)) : zd K (canonD neg v e) = zs K neg v e := by
  by_cases hv : v = 0
  · subst hv
    rw [zs_zero]
    exact zs_zero K false 0
  · have hs := (oddp_spec v (by omega)).1
    rw [canon_pos (by omega)]
    unfold zd
    simp only [val_digs]
    rw [← zs_shift K neg _ _ e h]
    rw [show v / 2 ^ tz v * 2 ^ tz v = v from hs.symm]
theorem canon_exp (K : Nat) (neg : Bool) (v : Nat) (e : Int) (h : 0 ≤ e + (K : Int)) : 0 ≤ (canonD neg v e).e + (K : Int) := by
  unfold canonD
  split
  · simp [zeroD]
  · simp only; omega

theorem za_inj {K v v' : Nat} {e e' : Int} (h1 : 0 ≤ e + (K : Int)) (h2 : 0 ≤ e' + (K : Int)) (ho : v % 2 = 1) (ho' : v' % 2 = 1) (h : za K v e = za K v' e') : v = v' ∧ e = e' := by
  unfold za at h
  have a : v = 2 * (v / 2) + 1 := by omega
  have b : v' = 2 * (v' / 2) + 1 := by omega
  have h3 : 2 ^ (e + (K : Int)).toNat * (2 * (v / 2) + 1) = 2 ^ (e' + (K : Int)).toNat * (2 * (v' / 2) + 1) := by
    rw [← a, ← b, Nat.mul_comm, h, Nat.mul_comm]
  have h4 := odd_pow_unique h3
  rw [h4] at h
  exact ⟨Nat.eq_of_mul_eq_mul_right (Nat.pow_pos (by omega)) h, by omega⟩
theorem zs_cases (K : Nat) (neg : Bool) (v : Nat) (e : Int) : (neg = false ∧ zs K neg v e = za K v e) ∨ (neg = true ∧ zs K neg v e = -(za K v e : Int)) := by
  cases neg
  · exact .inl ⟨rfl, rfl⟩
  · exact .inr ⟨rfl, rfl⟩

/-- A canonical form is given by its number. -/
theorem zd_inj {K : Nat} {d d' : Dy} (hc : Canon d) (hc' : Canon d') (h1 : 0 ≤ d.e + (K : Int)) (h2 : 0 ≤ d'.e + (K : Int)) (h : zd K d = zd K d') : d = d' := by
  obtain ⟨neg, l, x⟩ := d
  obtain ⟨neg', l', x'⟩ := d'
  obtain ⟨hL, hc⟩ := hc
  obtain ⟨hL', hc'⟩ := hc'
  simp only at hL hL' hc hc' h1 h2
  unfold zd at h
  simp only at h
  rcases hc with ⟨rfl, rfl, rfl⟩ | ⟨t, o⟩ <;> rcases hc' with ⟨rfl, rfl, rfl⟩ | ⟨t', o'⟩
  · rfl
  · have := za_pos (K := K) (e := x') (show 0 < val l' by omega)
    rw [show val [] = 0 from rfl, zs_zero] at h
    rcases zs_cases K neg' (val l') x' with ⟨_, e⟩ | ⟨_, e⟩ <;> omega
  · have := za_pos (K := K) (e := x) (show 0 < val l by omega)
    rw [show val [] = 0 from rfl, zs_zero] at h
    rcases zs_cases K neg (val l) x with ⟨_, e⟩ | ⟨_, e⟩ <;> omega
  · have p := za_pos (K := K) (e := x) (show 0 < val l by omega)
    have p' := za_pos (K := K) (e := x') (show 0 < val l' by omega)
    have fin : neg = neg' → za K (val l) x = za K (val l') x' → (⟨neg, l, x⟩ : Dy) = ⟨neg', l', x'⟩ := by
      intro hn hz
      obtain ⟨hv, hx⟩ := za_inj h1 h2 o o' hz
      subst hn hx
      rw [← digs_val l hL t, ← digs_val l' hL' t', hv]
    rcases zs_cases K neg (val l) x with ⟨n, e⟩ | ⟨n, e⟩ <;> rcases zs_cases K neg' (val l') x' with ⟨n', e'⟩ | ⟨n', e'⟩
    · exact fin (n.trans n'.symm) (by omega)
    · omega
    · omega
    · exact fin (n.trans n'.symm) (by omega)
theorem vld_exp {d : Dy} (hv : vld d = true) : -16384 ≤ d.e ∧ d.e ≤ 16384 := by
  obtain ⟨neg, l, x⟩ := d
  by_cases h : l = []
  · subst h
    obtain ⟨rfl, rfl⟩ := vld_empty hv
    simp
  · have := vld_bounds hv h
    exact ⟨this.2.2.2.2.1, this.2.2.2.2.2.1⟩
theorem valid_inj {K : Nat} {d d' : Dy} (hK : 16384 ≤ K) (hL : Limbs d.l) (hL' : Limbs d'.l) (hv : vld d = true) (hv' : vld d' = true) (h : zd K d = zd K d') : d = d' :=
  zd_inj (canon_of hL hv) (canon_of hL' hv') (by have := vld_exp hv; omega) (by have := vld_exp hv'; omega) h

theorem check_zd {K : Nat} {neg : Bool} {v : Nat} {e : Int} {d : Dy} (h : 0 ≤ e + (K : Int)) (hc : checkD neg v e = (d, 0)) : zd K d = zs K neg v e ∧ vld d = true ∧ Limbs d.l := by
  unfold checkD at hc
  split at hc
  · rename_i hr
    have e1 := (Prod.mk.inj hc).1
    rw [← e1]
    exact ⟨zd_canon K neg v e h, by rw [vld_canon]; exact hr, (canon_canon neg v e).1⟩
  · have := (Prod.mk.inj hc).2
    omega
theorem check_of {K : Nat} {neg : Bool} {v : Nat} {e : Int} {d : Dy} (h : 0 ≤ e + (K : Int)) (hK : 16384 ≤ K) (hL : Limbs d.l) (hv : vld d = true) (hz : zs K neg v e = zd K d) : checkD neg v e = (d, 0) := by
  have e1 : canonD neg v e = d := zd_inj (K := K) (canon_canon neg v e) (canon_of hL hv) (canon_exp K neg v e h) (by have := vld_exp hv; omega) (by rw [zd_canon K neg v e h, hz])
  unfold checkD
  rw [← vld_canon, e1, if_pos hv]
theorem check_valid {d : Dy} (hL : Limbs d.l) (hv : vld d = true) : checkD d.neg (val d.l) d.e = (d, 0) :=
  check_of (K := 16384) (by have := vld_exp hv; omega) (Nat.le_refl _) hL hv rfl
theorem check_err (neg : Bool) (v : Nat) (e : Int) : (∃ d, checkD neg v e = (d, 0)) ∨ checkD neg v e = (zeroD, 9) := by
  unfold checkD
  split
  · exact .inl ⟨_, rfl⟩
  · exact .inr rfl

theorem za_add (K v u : Nat) (e : Int) : za K (v + u) e = za K v e + za K u e := by unfold za; rw [Nat.add_mul]
theorem sumV_form (neg neg' : Bool) (P Q : Nat) (e : Int) : ∃ n v, sumV neg neg' P Q e = checkD n v e ∧ ∀ K, zs K n v e = zs K neg P e + zs K neg' Q e := by
  unfold sumV
  split
  · rename_i h
    subst h
    refine ⟨neg, P + Q, rfl, fun K => ?_⟩
    unfold zs
    rw [za_add]
    cases neg
    · simp
    · simp; omega
  · rename_i h
    split
    · rename_i hlt
      refine ⟨neg', Q - P, rfl, fun K => ?_⟩
      have e1 := za_add K (Q - P) P e
      rw [show Q - P + P = Q by omega] at e1
      unfold zs
      cases neg <;> cases neg' <;> simp at h ⊢ <;> omega
    · rename_i hge
      refine ⟨neg, P - Q, rfl, fun K => ?_⟩
      have e1 := za_add K (P - Q) Q e
      rw [show P - Q + Q = P by omega] at e1
      unfold zs
      cases neg <;> cases neg' <;> simp at h ⊢ <;> omega

theorem zd_empty {K : Nat} {d : Dy} (h : d.l = []) : zd K d = 0 := by unfold zd; rw [h]; exact zs_zero _ _ _
theorem sumD_form {d d' : Dy} (hL : Limbs d.l) (hL' : Limbs d'.l) (hv : vld d = true) (hv' : vld d' = true) :
    ∃ n v e, sumD d d' = checkD n v e ∧ -16384 ≤ e ∧ ∀ K, 16384 ≤ K → zs K n v e = zd K d + zd K d' := by
  have x := vld_exp hv
  have x' := vld_exp hv'
  by_cases h : d.l = []
  · refine ⟨d'.neg, val d'.l, d'.e, ?_, x'.1, fun K _ => ?_⟩
    · unfold sumD; rw [if_pos h, check_valid hL' hv']
    · rw [zd_empty h]; unfold zd; omega
  by_cases h' : d'.l = []
  · refine ⟨d.neg, val d.l, d.e, ?_, x.1, fun K _ => ?_⟩
    · unfold sumD; rw [if_neg h, if_pos h', check_valid hL hv]
    · rw [zd_empty h']; unfold zd; omega
  obtain ⟨n, v, e1, e2⟩ := sumV_form d.neg d'.neg (val d.l * 2 ^ (d.e - min d.e d'.e).toNat) (val d'.l * 2 ^ (d'.e - min d.e d'.e).toNat) (min d.e d'.e)
  refine ⟨n, v, min d.e d'.e, ?_, by omega, fun K hK => ?_⟩
  · unfold sumD; rw [if_neg h, if_neg h', e1]
  · rw [e2 K, zs_shift _ _ _ _ _ (by omega), zs_shift _ _ _ _ _ (by omega)]
    unfold zd
    congr 2
    · omega
    · omega

theorem add_valid {a b x : Dy} (h : addD a b = (x, 0)) : vld a = true ∧ vld b = true ∧ sumD a b = (x, 0) := by
  unfold addD at h
  split at h
  · rename_i hv; exact ⟨hv.1, hv.2, h⟩
  · have := (Prod.mk.inj h).2; omega
theorem add_zd {a b x : Dy} (hL : Limbs a.l) (hL' : Limbs b.l) (h : addD a b = (x, 0)) : vld a = true ∧ vld b = true ∧ vld x = true ∧ Limbs x.l ∧ ∀ K, 40000 ≤ K → zd K x = zd K a + zd K b := by
  obtain ⟨hv, hv', h⟩ := add_valid h
  obtain ⟨n, v, e, e1, e2, e3⟩ := sumD_form hL hL' hv hv'
  rw [e1] at h
  obtain ⟨_, g2, g3⟩ := check_zd (K := 16384) (by omega) h
  refine ⟨hv, hv', g2, g3, fun K hK => ?_⟩
  rw [(check_zd (K := K) (by omega) h).1]
  exact e3 K (by omega)
theorem add_of {a b d : Dy} {K : Nat} (hK : 40000 ≤ K) (hL : Limbs a.l) (hL' : Limbs b.l) (hv : vld a = true) (hv' : vld b = true) (hLd : Limbs d.l) (hvd : vld d = true) (hz : zd K d = zd K a + zd K b) : addD a b = (d, 0) := by
  obtain ⟨n, v, e, e1, e2, e3⟩ := sumD_form hL hL' hv hv'
  unfold addD
  rw [if_pos ⟨hv, hv'⟩, e1]
  exact check_of (K := K) (by omega) (by omega) hLd hvd ((e3 K (by omega)).trans hz.symm)
theorem add_zero_or (a b : Dy) (hL : Limbs a.l) (hL' : Limbs b.l) : (∃ x, addD a b = (x, 0)) ∨ ∃ k, k ≠ 0 ∧ addD a b = (zeroD, k) := by
  by_cases hv : vld a = true ∧ vld b = true
  · obtain ⟨n, v, e, e1, _⟩ := sumD_form hL hL' hv.1 hv.2
    unfold addD
    rw [if_pos hv, e1]
    rcases check_err n v e with ⟨d, h⟩ | h
    · exact .inl ⟨d, h⟩
    · exact .inr ⟨9, by omega, h⟩
  · unfold addD
    rw [if_neg hv]
    exact .inr ⟨1, by omega, rfl⟩

theorem zd_neg {K : Nat} {d : Dy} (hv : vld d = true) : zd K (negD d) = -zd K d := by
  obtain ⟨neg, l, x⟩ := d
  unfold negD
  by_cases h : l = []
  · rw [if_neg (by simp [h]), zd_empty (d := ⟨neg, l, x⟩) h]
    exact zd_empty rfl
  · rw [if_pos ⟨hv, h⟩]
    unfold zd zs
    cases neg <;> simp
theorem limbs_neg {d : Dy} (hL : Limbs d.l) : Limbs (negD d).l := by
  unfold negD
  split
  · exact hL
  · exact Limbs.nil
theorem sub_valid {a b x : Dy} (h : subD a b = (x, 0)) : vld a = true ∧ vld b = true ∧ addD a (negD b) = (x, 0) := by
  unfold subD at h
  split at h
  · rename_i hv
    refine ⟨hv.1, hv.2, ?_⟩
    unfold addD
    rw [if_pos ⟨hv.1, vld_neg hv.2⟩]
    exact h
  · have := (Prod.mk.inj h).2; omega
theorem sub_zd {a b x : Dy} (hL : Limbs a.l) (hL' : Limbs b.l) (h : subD a b = (x, 0)) : vld a = true ∧ vld b = true ∧ vld x = true ∧ Limbs x.l ∧ ∀ K, 40000 ≤ K → zd K x = zd K a - zd K b := by
  obtain ⟨hv, hv', h⟩ := sub_valid h
  obtain ⟨_, _, g1, g2, g3⟩ := add_zd hL (limbs_neg hL') h
  exact ⟨hv, hv', g1, g2, fun K hK => by rw [g3 K hK, zd_neg hv']; omega⟩
theorem sub_of {a b d : Dy} {K : Nat} (hK : 40000 ≤ K) (hL : Limbs a.l) (hL' : Limbs b.l) (hv : vld a = true) (hv' : vld b = true) (hLd : Limbs d.l) (hvd : vld d = true) (hz : zd K d = zd K a - zd K b) : subD a b = (d, 0) := by
  have := add_of hK hL (limbs_neg hL') hv (vld_neg hv') hLd hvd (by rw [zd_neg hv', hz]; omega)
  unfold subD
  rw [if_pos ⟨hv, hv'⟩]
  exact (add_valid this).2.2

theorem za_mul {K v u : Nat} {e e' : Int} (h1 : 0 ≤ e + (K : Int)) (h2 : 0 ≤ e' + (K : Int)) (h3 : 0 ≤ e + e' + (K : Int)) : za K (v * u) (e + e') * 2 ^ K = za K v e * za K u e' := by
  unfold za
  have : (e + e' + (K : Int)).toNat + K = (e + (K : Int)).toNat + (e' + (K : Int)).toNat := by omega
  rw [Nat.mul_assoc, ← Nat.pow_add, this, Nat.pow_add]
  simp only [Nat.mul_assoc, Nat.mul_left_comm]
theorem zs_mul {K v u : Nat} {e e' : Int} (n n' : Bool) (h1 : 0 ≤ e + (K : Int)) (h2 : 0 ≤ e' + (K : Int)) (h3 : 0 ≤ e + e' + (K : Int)) : zs K (n != n') (v * u) (e + e') * 2 ^ K = zs K n v e * zs K n' u e' := by
  have h := za_mul (v := v) (u := u) h1 h2 h3
  have h' : (za K (v * u) (e + e') : Int) * 2 ^ K = (za K v e : Int) * (za K u e' : Int) := by exact_mod_cast h
  unfold zs
  cases n <;> cases n' <;> simp [Int.neg_mul, Int.mul_neg] <;> rw [h']
theorem mul_valid {a b x : Dy} (h : mulD a b = (x, 0)) : vld a = true ∧ vld b = true ∧ checkD (a.neg != b.neg) (val a.l * val b.l) (a.e + b.e) = (x, 0) := by
  unfold mulD at h
  split at h
  · rename_i hv; exact ⟨hv.1, hv.2, h⟩
  · have := (Prod.mk.inj h).2; omega
theorem mul_zd {a b x : Dy} (h : mulD a b = (x, 0)) : vld a = true ∧ vld b = true ∧ vld x = true ∧ Limbs x.l ∧ ∀ K, 40000 ≤ K → zd K x * 2 ^ K = zd K a * zd K b := by
  obtain ⟨hv, hv', h⟩ := mul_valid h
  have x := vld_exp hv
  have x' := vld_exp hv'
  obtain ⟨_, g2, g3⟩ := check_zd (K := 40000) (by omega) h
  refine ⟨hv, hv', g2, g3, fun K hK => ?_⟩
  rw [(check_zd (K := K) (by omega) h).1]
  exact zs_mul _ _ (by omega) (by omega) (by omega)
theorem mul_of {a b d : Dy} {K : Nat} (hK : 40000 ≤ K) (hv : vld a = true) (hv' : vld b = true) (hLd : Limbs d.l) (hvd : vld d = true) (hz : zd K d * 2 ^ K = zd K a * zd K b) : mulD a b = (d, 0) := by
  have x := vld_exp hv
  have x' := vld_exp hv'
  unfold mulD
  rw [if_pos ⟨hv, hv'⟩]
  refine check_of (K := K) (by omega) (by omega) hLd hvd ?_
  have e := zs_mul (K := K) (v := val a.l) (u := val b.l) a.neg b.neg (show 0 ≤ a.e + (K : Int) by omega) (show 0 ≤ b.e + (K : Int) by omega) (by omega)
  rw [← show zd K a = zs K a.neg (val a.l) a.e from rfl, ← show zd K b = zs K b.neg (val b.l) b.e from rfl, ← hz] at e
  exact Int.eq_of_mul_eq_mul_right (Int.ne_of_gt (Int.pow_pos (by omega))) e
theorem mul_err (a b : Dy) : (∃ x, mulD a b = (x, 0)) ∨ ∃ k, k ≠ 0 ∧ mulD a b = (zeroD, k) := by
  unfold mulD
  split
  · rcases check_err (a.neg != b.neg) (val a.l * val b.l) (a.e + b.e) with ⟨d, h⟩ | h
    · exact .inl ⟨d, h⟩
    · exact .inr ⟨9, by omega, h⟩
  · exact .inr ⟨1, by omega, rfl⟩

theorem add_comm' {a b : Dy} : addD a b = addD b a := by
  by_cases hv : vld a = true ∧ vld b = true
  · unfold addD
    rw [if_pos hv, if_pos ⟨hv.2, hv.1⟩]
    obtain ⟨hv, hv'⟩ := hv
    obtain ⟨neg, l, x⟩ := a
    obtain ⟨neg', l', x'⟩ := b
    unfold sumD
    simp only
    by_cases h : l = []
    · by_cases h' : l' = []
      · subst h h'
        obtain ⟨rfl, rfl⟩ := vld_empty hv
        obtain ⟨rfl, rfl⟩ := vld_empty hv'
        rfl
      · rw [if_pos h, if_neg h', if_pos h]
    · by_cases h' : l' = []
      · rw [if_neg h, if_pos h', if_pos h']
      · rw [if_neg h, if_neg h', if_neg h', if_neg h, show min x' x = min x x' by omega]
        generalize val l * 2 ^ (x - min x x').toNat = P
        generalize val l' * 2 ^ (x' - min x x').toNat = Q
        unfold sumV
        by_cases hn : neg = neg'
        · subst hn
          rw [if_pos rfl, if_pos rfl, Nat.add_comm]
        · have hn' : ¬ neg' = neg := fun h => hn h.symm
          rw [if_neg hn, if_neg hn']
          by_cases h1 : P < Q
          · rw [if_pos h1, if_neg (by omega)]
          · rw [if_neg h1]
            by_cases h2 : Q < P
            · rw [if_pos h2]
            · rw [if_neg h2, show P - Q = 0 by omega, show Q - P = 0 by omega, check_zero, check_zero]
  · unfold addD
    rw [if_neg hv, if_neg (fun h => hv ⟨h.2, h.1⟩)]
theorem mul_comm' {a b : Dy} : mulD a b = mulD b a := by
  unfold mulD
  by_cases hv : vld a = true ∧ vld b = true
  · rw [if_pos hv, if_pos ⟨hv.2, hv.1⟩, Nat.mul_comm, Int.add_comm, show (a.neg != b.neg) = (b.neg != a.neg) by cases a.neg <;> cases b.neg <;> rfl]
  · rw [if_neg hv, if_neg (fun h => hv ⟨h.2, h.1⟩)]

end Go.Proofs.YtekajoifgdpmlaaGreatDoor
