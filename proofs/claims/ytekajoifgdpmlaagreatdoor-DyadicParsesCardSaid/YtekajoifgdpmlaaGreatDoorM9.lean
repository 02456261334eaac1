/- The plain laws of the ring, of the order and of the integers. -/
import Derived.Test.YtekajoifgdpmlaaGreatDoorM8
namespace Go.Proofs.YtekajoifgdpmlaaGreatDoor
open Go.RowKit Pl Go.Shelf

theorem add_assoc_law {a b c x z l r : Dy} (ha : Limbs a.l) (hb : Limbs b.l) (hc : Limbs c.l) (h1 : addD a b = (x, 0)) (h2 : addD b c = (z, 0)) (h3 : addD x c = (l, 0)) (h4 : addD a z = (r, 0)) : l = r := by
  obtain ⟨_, _, _, x4, x5⟩ := add_zd ha hb h1
  obtain ⟨_, _, _, z4, z5⟩ := add_zd hb hc h2
  obtain ⟨_, _, l3, l4, l5⟩ := add_zd x4 hc h3
  obtain ⟨_, _, r3, r4, r5⟩ := add_zd ha z4 h4
  refine valid_inj (K := 40000) (by omega) l4 r4 l3 r3 ?_
  rw [l5 _ (Nat.le_refl _), r5 _ (Nat.le_refl _), x5 _ (Nat.le_refl _), z5 _ (Nat.le_refl _), Int.add_assoc]
theorem pow_cancel {a b : Int} {K : Nat} (h : a * 2 ^ K = b * 2 ^ K) : a = b := Int.eq_of_mul_eq_mul_right (Int.ne_of_gt (Int.pow_pos (by omega))) h
theorem mul_assoc_law {a b c x z l r : Dy} (h1 : mulD a b = (x, 0)) (h2 : mulD b c = (z, 0)) (h3 : mulD x c = (l, 0)) (h4 : mulD a z = (r, 0)) : l = r := by
  obtain ⟨_, _, _, x4, x5⟩ := mul_zd h1
  obtain ⟨_, _, _, z4, z5⟩ := mul_zd h2
  obtain ⟨_, _, l3, l4, l5⟩ := mul_zd h3
  obtain ⟨_, _, r3, r4, r5⟩ := mul_zd h4
  have x5 := x5 _ (Nat.le_refl _)
  have z5 := z5 _ (Nat.le_refl _)
  have l5 := l5 _ (Nat.le_refl _)
  have r5 := r5 _ (Nat.le_refl _)
  refine valid_inj (K := 40000) (by omega) l4 r4 l3 r3 ?_
  generalize (40000 : Nat) = K at *
  refine pow_cancel (K := K) (pow_cancel (K := K) ?_)
  generalize zd K l = L at *
  generalize zd K r = R at *
  generalize zd K x = X at *
  generalize zd K z = Z at *
  generalize zd K a = A at *
  generalize zd K b = B at *
  generalize zd K c = C at *
  generalize (2 : Int) ^ K = T at *
  calc L * T * T = X * C * T := by rw [l5]
    _ = X * T * C := by rw [Int.mul_right_comm]
    _ = A * B * C := by rw [x5]
    _ = A * (B * C) := by rw [Int.mul_assoc]
    _ = A * (Z * T) := by rw [z5]
    _ = A * Z * T := by rw [Int.mul_assoc]
    _ = R * T * T := by rw [r5]
theorem distrib_law {a b c s p q r t : Dy} (hb : Limbs b.l) (hc : Limbs c.l) (h1 : addD b c = (s, 0)) (h2 : mulD a s = (p, 0)) (h3 : mulD a b = (q, 0)) (h4 : mulD a c = (r, 0)) (h5 : addD q r = (t, 0)) : p = t := by
  obtain ⟨_, _, _, s4, s5⟩ := add_zd hb hc h1
  obtain ⟨_, _, p3, p4, p5⟩ := mul_zd h2
  obtain ⟨_, _, _, q4, q5⟩ := mul_zd h3
  obtain ⟨_, _, _, r4, r5⟩ := mul_zd h4
  obtain ⟨_, _, t3, t4, t5⟩ := add_zd q4 r4 h5
  have s5 := s5 _ (Nat.le_refl _)
  have p5 := p5 _ (Nat.le_refl _)
  have q5 := q5 _ (Nat.le_refl _)
  have r5 := r5 _ (Nat.le_refl _)
  have t5 := t5 _ (Nat.le_refl _)
  refine valid_inj (K := 40000) (by omega) p4 t4 p3 t3 ?_
  generalize (40000 : Nat) = K at *
  refine pow_cancel (K := K) ?_
  rw [p5, t5, Int.add_mul, q5, r5, s5, Int.mul_add]
theorem subadd_law {a b d u : Dy} (ha : Limbs a.l) (hb : Limbs b.l) (h1 : subD a b = (d, 0)) (h2 : addD d b = (u, 0)) : u = a := by
  obtain ⟨a1, _, _, d4, d5⟩ := sub_zd ha hb h1
  obtain ⟨_, _, u3, u4, u5⟩ := add_zd d4 hb h2
  refine valid_inj (K := 40000) (by omega) u4 ha u3 a1 ?_
  rw [u5 _ (Nat.le_refl _), d5 _ (Nat.le_refl _)]
  omega

/-- The order of integers. -/
def cmpI (x y : Int) : Int := if x < y then -1 else if y < x then 1 else 0

theorem cmpN_za {K P Q : Nat} {e : Int} : cmpN (za K P e) (za K Q e) = cmpN P Q := by
  have hp : 0 < 2 ^ (e + (K : Int)).toNat := Nat.pow_pos (by omega)
  unfold za
  rcases Nat.lt_trichotomy P Q with h | h | h
  · rw [cmpN_lt h, cmpN_lt (Nat.mul_lt_mul_of_pos_right h hp)]
  · rw [h, cmpN_eq rfl, cmpN_eq rfl]
  · rw [cmpN_gt h, cmpN_gt (Nat.mul_lt_mul_of_pos_right h hp)]
theorem za_lt {K : Nat} {v u : Nat} {e e' : Int} (h1 : 0 ≤ e + (K : Int)) (h2 : 0 ≤ e' + (K : Int)) (hu : 0 < u) (h : (blen v : Int) + e < (blen u : Int) + e') : za K v e < za K u e' := by
  have hp : 0 < 2 ^ (e + (K : Int)).toNat := Nat.pow_pos (by omega)
  have a := Nat.mul_lt_mul_of_pos_right (lt_blen v) hp
  have b := Nat.mul_le_mul_right (2 ^ (e' + (K : Int)).toNat) (le_blen u hu)
  have hb := blen_pos u hu
  rw [← Nat.pow_add] at a b
  have c : 2 ^ (blen v + (e + (K : Int)).toNat) ≤ 2 ^ (blen u - 1 + (e' + (K : Int)).toNat) := Nat.pow_le_pow_right (by omega) (by omega)
  unfold za
  omega
theorem acmp_za {K : Nat} {d d' : Dy} (h1 : 0 ≤ d.e + (K : Int)) (h2 : 0 ≤ d'.e + (K : Int)) (hp : 0 < val d.l) (hp' : 0 < val d'.l) : acmp d d' = cmpN (za K (val d.l) d.e) (za K (val d'.l) d'.e) := by
  unfold acmp
  split
  · rename_i h
    rw [cmpN_lt (za_lt h1 h2 hp' h)]
  · split
    · rename_i h
      rw [cmpN_gt (za_lt h2 h1 hp h)]
    · rw [← cmpN_za (K := K) (e := min d.e d'.e), za_shift _ _ _ _ (by omega), za_shift _ _ _ _ (by omega), show min d.e d'.e + (((d.e - min d.e d'.e).toNat : Nat) : Int) = d.e by omega, show min d.e d'.e + (((d'.e - min d.e d'.e).toNat : Nat) : Int) = d'.e by omega]

theorem cmpI_cases (x y : Int) : (x < y ∧ cmpI x y = -1) ∨ (y < x ∧ cmpI x y = 1) ∨ (x = y ∧ cmpI x y = 0) := by
  unfold cmpI
  by_cases h : x < y
  · rw [if_pos h]; exact .inl ⟨h, rfl⟩
  · rw [if_neg h]
    by_cases h2 : y < x
    · rw [if_pos h2]; exact .inr (.inl ⟨h2, rfl⟩)
    · rw [if_neg h2]; exact .inr (.inr ⟨by omega, rfl⟩)

theorem cmpN_three (u v : Nat) : (u < v ∧ cmpN u v = -1) ∨ (v < u ∧ cmpN u v = 1) ∨ (u = v ∧ cmpN u v = 0) := by
  rcases Nat.lt_trichotomy u v with h | h | h
  · exact .inl ⟨h, cmpN_lt h⟩
  · exact .inr (.inr ⟨h, cmpN_eq h⟩)
  · exact .inr (.inl ⟨h, cmpN_gt h⟩)
theorem sgn_zd {K : Nat} {d : Dy} (hv : vld d = true) : sgnD d = cmpI (zd K d) 0 := by
  obtain ⟨neg, l, x⟩ := d
  unfold sgnD
  by_cases h : l = []
  · rw [if_neg (by simp [h]), zd_empty (d := ⟨neg, l, x⟩) h]
    rfl
  · rw [if_pos ⟨hv, h⟩]
    have b := vld_bounds hv h
    simp only at b
    have p := za_pos (K := K) (e := x) (show 0 < val l by omega)
    unfold zd
    simp only
    rcases zs_cases K neg (val l) x with ⟨n, e⟩ | ⟨n, e⟩ <;> rw [e, n] <;> rcases cmpI_cases (zs K neg (val l) x) 0 with c | c | c <;> rw [e] at c <;> first | (exfalso; omega) | (rw [c.2]; rfl)
theorem cmp_mix {z z' : Int} {u u' : Nat} (hu : 0 < u) (hu' : 0 < u') (h : z = u ∨ z = -(u : Int)) (h' : z' = u' ∨ z' = -(u' : Int)) :
    (if cmpI z 0 < cmpI z' 0 then -1 else if cmpI z' 0 < cmpI z 0 then 1 else if cmpI z 0 = 0 then 0 else cmpI z 0 * cmpN u u') = cmpI z z' := by
  rcases cmpI_cases z 0 with a | a | a <;> rcases cmpI_cases z' 0 with b | b | b <;> rcases cmpI_cases z z' with c | c | c <;> rcases cmpN_three u u' with d | d | d <;>
    first | (exfalso; omega) | (rw [a.2, b.2, c.2, d.2]; rfl) | (rw [a.2, b.2, c.2]; rfl)
theorem cmpD_zd {K : Nat} {d d' : Dy} (hK : 16384 ≤ K) (hv : vld d = true) (hv' : vld d' = true) : cmpD d d' = cmpI (zd K d) (zd K d') := by
  unfold cmpD
  rw [if_pos ⟨hv, hv'⟩, sgn_zd (K := K) hv, sgn_zd (K := K) hv']
  have x := vld_exp hv
  have x' := vld_exp hv'
  have hz : ∀ e : Dy, zd K e ≠ 0 → 0 < val e.l := by
    intro e h0
    rcases Nat.eq_zero_or_pos (val e.l) with h | h
    · exfalso; apply h0; unfold zd; rw [h]; exact zs_zero _ _ _
    · exact h
  by_cases hA : zd K d = 0
  · rw [hA]
    rcases cmpI_cases 0 (zd K d') with c | c | c <;> rcases cmpI_cases (zd K d') 0 with b | b | b <;> first | (exfalso; omega) | (rw [b.2, c.2]; rfl)
  by_cases hB : zd K d' = 0
  · rw [hB]
    rcases cmpI_cases (zd K d) 0 with c | c | c <;> first | (exfalso; omega) | (rw [c.2]; rfl)
  have p := hz d hA
  have p' := hz d' hB
  rw [acmp_za (K := K) (by omega) (by omega) p p']
  refine cmp_mix (za_pos p) (za_pos p') ?_ ?_
  · rcases zs_cases K d.neg (val d.l) d.e with ⟨_, e⟩ | ⟨_, e⟩
    · exact .inl e
    · exact .inr e
  · rcases zs_cases K d'.neg (val d'.l) d'.e with ⟨_, e⟩ | ⟨_, e⟩
    · exact .inl e
    · exact .inr e

theorem cmp_anti (a b : Dy) : cmpD a b = -cmpD b a ∧ -1 ≤ cmpD a b ∧ cmpD a b ≤ 1 := by
  by_cases hv : vld a = true ∧ vld b = true
  · rw [cmpD_zd (K := 40000) (by omega) hv.1 hv.2, cmpD_zd (K := 40000) (by omega) hv.2 hv.1]
    generalize zd 40000 a = x
    generalize zd 40000 b = y
    rcases cmpI_cases x y with h | h | h <;> rcases cmpI_cases y x with h' | h' | h' <;> omega
  · unfold cmpD
    rw [if_neg hv, if_neg (fun h => hv ⟨h.2, h.1⟩)]
    omega
theorem cmp_bad {a b : Dy} (h : vld a = false ∨ vld b = false) : cmpD a b = 0 := by
  unfold cmpD
  rw [if_neg]
  rintro ⟨h1, h2⟩
  rcases h with h | h
  · rw [h1] at h; cases h
  · rw [h2] at h; cases h
theorem cmp_sub {a b d : Dy} (ha : Limbs a.l) (hb : Limbs b.l) (h : subD a b = (d, 0)) : sgnD d = cmpD a b := by
  obtain ⟨a1, b1, d3, d4, d5⟩ := sub_zd ha hb h
  rw [cmpD_zd (K := 40000) (by omega) a1 b1, sgn_zd (K := 40000) d3, d5 _ (Nat.le_refl _)]
  generalize zd 40000 a = x
  generalize zd 40000 b = y
  rcases cmpI_cases x y with h | h | h <;> rcases cmpI_cases (x - y) 0 with h' | h' | h' <;> omega
theorem cmp_eq {a b : Dy} (ha : Limbs a.l) (hb : Limbs b.l) (hv : vld a = true) (hv' : vld b = true) : (cmpD a b == 0) = eqD a b := by
  rw [Bool.eq_iff_iff, beq_iff_eq, eqD_iff]
  rw [cmpD_zd (K := 40000) (by omega) hv hv']
  constructor
  · intro h
    refine valid_inj (K := 40000) (by omega) ha hb hv hv' ?_
    rcases cmpI_cases (zd 40000 a) (zd 40000 b) with h' | h' | h' <;> omega
  · rintro rfl
    rcases cmpI_cases (zd 40000 a) (zd 40000 a) with h' | h' | h' <;> omega
theorem cmp_zero {a : Dy} (hv : vld a = true) : cmpD a zeroD = sgnD a := by
  rw [cmpD_zd (K := 40000) (by omega) hv vld_zero, sgn_zd (K := 40000) hv, zd_empty (d := zeroD) rfl]
theorem cmp_add {a b c x y : Dy} (ha : Limbs a.l) (hb : Limbs b.l) (hc : Limbs c.l) (h1 : addD a c = (x, 0)) (h2 : addD b c = (y, 0)) : cmpD x y = cmpD a b := by
  obtain ⟨a1, _, x3, _, x5⟩ := add_zd ha hc h1
  obtain ⟨b1, _, y3, _, y5⟩ := add_zd hb hc h2
  rw [cmpD_zd (K := 40000) (by omega) x3 y3, cmpD_zd (K := 40000) (by omega) a1 b1, x5 _ (Nat.le_refl _), y5 _ (Nat.le_refl _)]
  generalize zd 40000 a = u
  generalize zd 40000 b = v
  generalize zd 40000 c = z
  rcases cmpI_cases u v with h | h | h <;> rcases cmpI_cases (u + z) (v + z) with h' | h' | h' <;> omega
theorem cmp_trans {a b c : Dy} (h1 : vld a = true) (h2 : vld b = true) (h3 : vld c = true) : 0 < cmpD a b ∨ 0 < cmpD b c ∨ cmpD a c ≤ 0 := by
  rw [cmpD_zd (K := 40000) (by omega) h1 h2, cmpD_zd (K := 40000) (by omega) h2 h3, cmpD_zd (K := 40000) (by omega) h1 h3]
  generalize zd 40000 a = u
  generalize zd 40000 b = v
  generalize zd 40000 c = z
  rcases cmpI_cases u v with h | h | h <;> rcases cmpI_cases v z with h' | h' | h' <;> rcases cmpI_cases u z with h'' | h'' | h'' <;> omega

/-- Integers. -/
theorem zd_int (K : Nat) (n : Int) : zd K (intD n) = n * 2 ^ K := by
  unfold intD
  rw [zd_canon K _ _ _ (by omega)]
  unfold zs za
  rw [show ((0 : Int) + (K : Int)).toNat = K by omega]
  by_cases h : n < 0
  · rw [decide_eq_true h]
    have : (n.natAbs : Int) = -n := by omega
    simp only [if_true]
    rw [Int.natCast_mul, this, Int.neg_mul, Int.neg_neg, Int.natCast_pow]
    rfl
  · rw [decide_eq_false h]
    have : (n.natAbs : Int) = n := by omega
    simp only [Bool.false_eq_true, if_false]
    rw [Int.natCast_mul, this, Int.natCast_pow]
    rfl
theorem limbs_int (n : Int) : Limbs (intD n).l := (canon_canon _ _ _).1
theorem vld_int {n : Int} (h : n.natAbs < 2 ^ 64) : vld (intD n) = true := by
  unfold intD
  rw [vld_canon]
  by_cases h0 : n.natAbs = 0
  · rw [h0]; rfl
  · have hp : 0 < n.natAbs := by omega
    have ho := oddp_spec n.natAbs hp
    rw [val_canon hp, canon_pos hp, inR_pos (by omega)]
    have h1 := blen_le_of _ _ h
    have h2 := tz_lt_blen n.natAbs hp
    have h3 : blen (oddp n.natAbs) ≤ 64 := blen_le_of _ _ (Nat.lt_of_le_of_lt (Nat.div_le_self _ _) h)
    simp
    omega
theorem int_add {a b : Int} (h1 : -2147483648 ≤ a) (h2 : a ≤ 2147483647) (h3 : -2147483648 ≤ b) (h4 : b ≤ 2147483647) : addD (intD a) (intD b) = (intD (a + b), 0) :=
  add_of (K := 40000) (Nat.le_refl _) (limbs_int a) (limbs_int b) (vld_int (by omega)) (vld_int (by omega)) (limbs_int _) (vld_int (by omega)) (by rw [zd_int, zd_int, zd_int, Int.add_mul])
theorem int_sub {a b : Int} (h1 : -2147483648 ≤ a) (h2 : a ≤ 2147483647) (h3 : -2147483648 ≤ b) (h4 : b ≤ 2147483647) : subD (intD a) (intD b) = (intD (a - b), 0) :=
  sub_of (K := 40000) (Nat.le_refl _) (limbs_int a) (limbs_int b) (vld_int (by omega)) (vld_int (by omega)) (limbs_int _) (vld_int (by omega)) (by rw [zd_int, zd_int, zd_int, Int.sub_mul])
theorem mul_small {a b : Int} (h1 : -2147483648 ≤ a) (h2 : a ≤ 2147483647) (h3 : -2147483648 ≤ b) (h4 : b ≤ 2147483647) : (a * b).natAbs ≤ 4611686018427387904 := by
  rw [Int.natAbs_mul]
  exact Nat.mul_le_mul (show a.natAbs ≤ 2147483648 by omega) (show b.natAbs ≤ 2147483648 by omega)
theorem int_mul {a b : Int} (h1 : -2147483648 ≤ a) (h2 : a ≤ 2147483647) (h3 : -2147483648 ≤ b) (h4 : b ≤ 2147483647) : mulD (intD a) (intD b) = (intD (a * b), 0) :=
  mul_of (K := 40000) (Nat.le_refl _) (vld_int (by omega)) (vld_int (by omega)) (limbs_int _) (vld_int (by have := mul_small h1 h2 h3 h4; omega)) (by
    rw [zd_int, zd_int, zd_int]
    simp only [Int.mul_assoc, Int.mul_left_comm, Int.mul_comm])
theorem int_scale {a : Int} {n : Nat} (h1 : -2147483648 ≤ a) (h2 : a ≤ 2147483647) (hn : n < 30) : scaleD (intD a) n = (intD (a * 2 ^ n), 0) := by
  have hv : vld (intD a) = true := vld_int (by omega)
  have he := vld_exp hv
  have hp : (2 : Nat) ^ n ≤ 2 ^ 30 := Nat.pow_le_pow_right (by omega) (by omega)
  have hb : (a * 2 ^ n).natAbs < 2 ^ 64 := by
    rw [Int.natAbs_mul, show ((2 : Int) ^ n).natAbs = 2 ^ n by rw [Int.natAbs_pow]; rfl]
    have := Nat.mul_le_mul (show a.natAbs ≤ 2147483648 by omega) hp
    omega
  unfold scaleD
  rw [if_pos ⟨hv, by simp [expB]; omega⟩]
  refine check_of (K := 40000) (by omega) (by omega) (limbs_int _) (vld_int hb) ?_
  have e1 : zs 40000 (intD a).neg (val (intD a).l) ((intD a).e + (n : Int)) = zd 40000 (intD a) * 2 ^ n := by
    rw [← zs_shift _ _ _ _ _ (by omega)]
    unfold zd zs za
    cases (intD a).neg
    · simp only [Bool.false_eq_true, if_false, Int.natCast_mul, Int.natCast_pow]
      rw [Int.mul_right_comm]; rfl
    · simp only [if_true, Int.natCast_mul, Int.natCast_pow]
      rw [Int.mul_right_comm, Int.neg_mul]; rfl
  rw [e1, zd_int, zd_int, Int.mul_right_comm]
theorem int_cmp {a b : Int} (h1 : -2147483648 ≤ a) (h2 : a ≤ 2147483647) (h3 : -2147483648 ≤ b) (h4 : b ≤ 2147483647) : cmpD (intD a) (intD b) = cmpI a b := by
  rw [cmpD_zd (K := 40000) (by omega) (vld_int (by omega)) (vld_int (by omega)), zd_int, zd_int]
  have hp : (0 : Int) < 2 ^ 40000 := Int.pow_pos (by omega)
  generalize (2 : Int) ^ 40000 = T at *
  rcases cmpI_cases a b with h | h | h
  · rw [h.2]; unfold cmpI; rw [if_pos (Int.mul_lt_mul_of_pos_right h.1 hp)]
  · have := Int.mul_lt_mul_of_pos_right h.1 hp
    rw [h.2]; unfold cmpI; rw [if_neg (by omega), if_pos this]
  · rw [h.2, h.1]; unfold cmpI; rw [if_neg (by omega), if_neg (by omega)]

end Go.Proofs.YtekajoifgdpmlaaGreatDoor
