/- dyadic.sum with zeros, sum at any valid numbers. -/
import Derived.Test.YtekajoifgdpmlaaGreatDoorD3b
import Derived.Test.YtekajoifgdpmlaaGreatDoorD3c
import Derived.Test.YtekajoifgdpmlaaGreatDoorD3d
namespace Go.Proofs.YtekajoifgdpmlaaGreatDoor
open Go.RowKit Pl Go.Shelf

/-- A valid number is its canonical form. -/
theorem canon_valid {neg : Bool} {l : List Nat} {x : Int} (hl : Limbs l) (h : vld ⟨neg, l, x⟩ = true) : canonD neg (val l) x = ⟨neg, l, x⟩ := by
  by_cases hne : l = []
  · subst hne
    rw [vld_nil] at h
    simp at h
    obtain ⟨h1, h2⟩ := h
    subst h1 h2
    rfl
  · obtain ⟨b1, b2, b3, _⟩ := vld_bounds h hne
    simp only at b1 b2 b3
    rw [canon_pos (by omega), (tz_odd' b3).1]
    simp [digs_val l hl b2]

/-- The sum of valid numbers, or the error. -/
def sumD (d d' : Dy) : Dy × Int := if d.l = [] then (d', 0) else if d'.l = [] then (d, 0) else
  sumV d.neg d'.neg (val d.l * 2 ^ (d.e - min d.e d'.e).toNat) (val d'.l * 2 ^ (d'.e - min d.e d'.e).toNat) (min d.e d'.e)

theorem vld_len {neg : Bool} {w : World} {A : Option Addr} {n c : Nat} {l : List Nat} {x : Int} (h : SL w A n c l) (hv : vld ⟨neg, l, x⟩ = true) : n ≤ 256 ∧ -16384 ≤ x ∧ x ≤ 16384 := by
  by_cases hne : l = []
  · subst hne
    have := h.len
    rw [vld_nil] at hv
    simp at hv this
    omega
  · obtain ⟨b1, b2, b3, b4, b5, b6, _⟩ := vld_bounds hv hne
    simp only at b1 b5 b6
    rw [h.len] at b1
    exact ⟨b1, b5, b6⟩

set_option maxRecDepth 100000 in
set_option maxHeartbeats 2000000 in
theorem sum_left0 (neg neg' : Bool) (A B : Option Addr) (c m d : Nat) (l' : List Nat) (x x' : Int) (w : World) (h' : SL w B m d l') (ht : Tabs w) (hv' : vld ⟨neg', l', x'⟩ = true) :
    Calls Tryz.prog 98 #[.agg #[.bool neg, .slice A 0 c, .int .i64 x], .agg #[.bool neg', .slice B m d, .int .i64 x']] w (RetE ⟨neg', l', x'⟩ 0 w) := by
  obtain ⟨b1', b5', b6'⟩ := vld_len h' hv'
  have HCV := Lib.hid (canon_valid h'.lt hv')
  clear hv'
  obtain ⟨k1, k2, k3, k4, k5⟩ := box3 w 25 #[.bool neg', .slice B m d, .int .i64 x'] #[.bool neg', .slice B m d, .int .i64 x'] #[.bool false, .slice none 0 0, .int .i64 0]
  have h1' := h'.below k5
  have HT := Lib.hid (ht.next k5)
  clear ht
  go_enter Tryz.func98, Tryz.ntmps98
  go_wp2_with fail
  refine (canonical_any neg' B m d l' x' _ h1' b1' (by omega) (by omega) HT.out).mono ?_
  rintro e wF ⟨AF, nF, cF, rfl, hsF, hfF, hbF⟩
  rw [HCV.out] at hsF ⊢
  have k3G := k3.below hbF (by omega)
  have hzF : w.heap.size + 3 ≤ wF.heap.size := by have := hbF.size; omega
  obtain ⟨v0, v1, v2⟩ := k3G.cells3
  have g0 := k3G.frozen 0
  have g1 := k3G.frozen 1
  have g2 := k3G.frozen 2
  go_wp2_with fail
  refine bodyPost_ret (resDE Tryz.results98 rfl (k3G.set3 _ _ _)) rfl ?_
  exact ⟨AF, nF, cF, rfl, (((hsF.far hfF (by omega) 0 _).far hfF (by omega) 1 _).far hfF (by omega) 2 _), hfF.mono (by omega), below_set3 (bnext k5 hbF) (by omega) _ _ _⟩

set_option maxRecDepth 100000 in
set_option maxHeartbeats 2000000 in
theorem sum_right0 (neg neg' : Bool) (A B : Option Addr) (n c d : Nat) (l : List Nat) (x x' : Int) (w : World) (h : SL w A n c l) (ht : Tabs w) (hv : vld ⟨neg, l, x⟩ = true) (hne : n ≠ 0) :
    Calls Tryz.prog 98 #[.agg #[.bool neg, .slice A n c, .int .i64 x], .agg #[.bool neg', .slice B 0 d, .int .i64 x']] w (RetE ⟨neg, l, x⟩ 0 w) := by
  obtain ⟨b1', b5', b6'⟩ := vld_len h hv
  have HCV := Lib.hid (canon_valid h.lt hv)
  clear hv
  have n0 : ((n : Int) == 0) = false := by simp; omega
  obtain ⟨k1, k2, k3, k4, k5⟩ := box3 w 25 #[.bool neg, .slice A n c, .int .i64 x] #[.bool neg', .slice B 0 d, .int .i64 x'] #[.bool false, .slice none 0 0, .int .i64 0]
  have h1' := h.below k5
  have HT := Lib.hid (ht.next k5)
  clear ht
  go_enter Tryz.func98, Tryz.ntmps98
  go_wp2_with fail
  refine (canonical_any neg A n c l x _ h1' b1' (by omega) (by omega) HT.out).mono ?_
  rintro e wF ⟨AF, nF, cF, rfl, hsF, hfF, hbF⟩
  rw [HCV.out] at hsF ⊢
  have k3G := k3.below hbF (by omega)
  have hzF : w.heap.size + 3 ≤ wF.heap.size := by have := hbF.size; omega
  obtain ⟨v0, v1, v2⟩ := k3G.cells3
  have g0 := k3G.frozen 0
  have g1 := k3G.frozen 1
  have g2 := k3G.frozen 2
  go_wp2_with fail
  refine bodyPost_ret (resDE Tryz.results98 rfl (k3G.set3 _ _ _)) rfl ?_
  exact ⟨AF, nF, cF, rfl, (((hsF.far hfF (by omega) 0 _).far hfF (by omega) 1 _).far hfF (by omega) 2 _), hfF.mono (by omega), below_set3 (bnext k5 hbF) (by omega) _ _ _⟩

theorem sum_any (neg neg' : Bool) (A B : Option Addr) (n c m d : Nat) (l l' : List Nat) (x x' : Int) (w : World) (h : SL w A n c l) (h' : SL w B m d l') (ht : Tabs w)
    (hv : vld ⟨neg, l, x⟩ = true) (hv' : vld ⟨neg', l', x'⟩ = true) :
    Calls Tryz.prog 98 #[.agg #[.bool neg, .slice A n c, .int .i64 x], .agg #[.bool neg', .slice B m d, .int .i64 x']] w
      (RetE (sumD ⟨neg, l, x⟩ ⟨neg', l', x'⟩).1 (sumD ⟨neg, l, x⟩ ⟨neg', l', x'⟩).2 w) := by
  by_cases hn : n = 0
  · have hl := h.empty hn
    subst hn hl
    have := sum_left0 neg neg' A B c m d l' x x' w h' ht hv'
    rwa [sumD, if_pos rfl]
  by_cases hm : m = 0
  · have hl := h'.empty hm
    subst hm hl
    have := sum_right0 neg neg' A B n c d l x x' w h ht hv hn
    rwa [sumD, if_neg ((ne_nil_iff h).2 hn), if_pos rfl]
  rw [sumD, if_neg ((ne_nil_iff h).2 hn), if_neg ((ne_nil_iff h').2 hm)]
  simp only
  by_cases he : 4097 < max ((blen (val l) : Int) + x) ((blen (val l') : Int) + x') - min x x'
  · by_cases hd : 1 < ((blen (val l) : Int) + x) - ((blen (val l') : Int) + x') ∨ 1 < ((blen (val l') : Int) + x') - ((blen (val l) : Int) + x)
    · obtain ⟨_, _, b3, b4, _⟩ := vld_bounds hv ((ne_nil_iff h).2 hn)
      obtain ⟨_, _, b3', b4', _⟩ := vld_bounds hv' ((ne_nil_iff h').2 hm)
      rw [sum_early b3 b3' b4 b4' rfl he hd]
      exact sum_early_any neg neg' A B n c m d l l' x x' _ w h h' ht hv hv' hn hm rfl ⟨he, hd⟩
    · have hd1 : ¬ 1 < ((blen (val l) : Int) + x) - ((blen (val l') : Int) + x') := fun g => hd (.inl g)
      have hd2 : ¬ 1 < ((blen (val l') : Int) + x') - ((blen (val l) : Int) + x) := fun g => hd (.inr g)
      by_cases hs : neg = neg'
      · exact sum_same_b neg neg' A B n c m d l l' x x' _ w h h' ht hv hv' hn hm rfl he hd1 hd2 hs
      · by_cases hp : val l * 2 ^ (x - min x x').toNat < val l' * 2 ^ (x' - min x x').toNat
        · exact sum_lt_b neg neg' A B n c m d l l' x x' _ w h h' ht hv hv' hn hm rfl he hd1 hd2 hs hp
        · exact sum_ge_b neg neg' A B n c m d l l' x x' _ w h h' ht hv hv' hn hm rfl he hd1 hd2 hs hp
  · by_cases hs : neg = neg'
    · exact sum_same_a neg neg' A B n c m d l l' x x' _ w h h' ht hv hv' hn hm rfl he hs
    · by_cases hp : val l * 2 ^ (x - min x x').toNat < val l' * 2 ^ (x' - min x x').toNat
      · exact sum_lt_a neg neg' A B n c m d l l' x x' _ w h h' ht hv hv' hn hm rfl he hs hp
      · exact sum_ge_a neg neg' A B n c m d l l' x x' _ w h h' ht hv hv' hn hm rfl he hs hp

end Go.Proofs.YtekajoifgdpmlaaGreatDoor
