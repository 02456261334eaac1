/- The reference's Equal and Valid, the program's Valid: what each call computes. -/
import Derived.Test.YtekajoifgdpmlaaGreatDoorR2
namespace Go.Proofs.YtekajoifgdpmlaaGreatDoor
open Go.RowKit Pl Go.Shelf

/-- Two numbers are equal as values. -/
def eqD (d d' : Dy) : Bool := decide (d.neg = d'.neg ∧ d.e = d'.e ∧ d.l = d'.l)
theorem eqD_self (d : Dy) : eqD d d = true := by simp [eqD]
theorem eqD_iff (d d' : Dy) : eqD d d' = true ↔ d = d' := by
  obtain ⟨a, b, c⟩ := d
  obtain ⟨a', b', c'⟩ := d'
  simp [eqD]
  intro _
  exact and_comm

set_option maxHeartbeats 1000000 in
theorem requal_any (neg neg' : Bool) (A B : Option Addr) (n c m d : Nat) (l l' : List Nat) (x x' : Int) (w : World) (h : SL w A n c l) (h' : SL w B m d l') :
    Calls Tryz.prog 29 #[.agg #[.bool neg, .slice A n c, .int .i64 x], .agg #[.bool neg', .slice B m d, .int .i64 x']] w
      fun e w' => e = .returned (.bool (eqD ⟨neg, l, x⟩ ⟨neg', l', x'⟩)) ∧ Below w.heap.size w w' := by
  have h2 := (h.alloc (.cells #[.bool neg, .slice A n c, .int .i64 x] 25)).alloc (.cells #[.bool neg', .slice B m d, .int .i64 x'] 25)
  have h2' := (h'.alloc (.cells #[.bool neg, .slice A n c, .int .i64 x] 25)).alloc (.cells #[.bool neg', .slice B m d, .int .i64 x'] 25)
  have HK := Lib.hid h.len
  have HK' := Lib.hid h'.len
  by_cases c1 : neg = neg'
  · subst c1
    by_cases c2 : x = x'
    · subst c2
      by_cases c3 : n = m
      · subst c3
        have HC : Hid (eqD ⟨neg, l, x⟩ ⟨neg, l', x⟩ = (cmpL l l' == 0)) := by
          unfold Hid eqD cmpL
          rw [HK.out, HK'.out, if_neg (by omega), if_neg (by omega)]
          by_cases hv : val l = val l'
          · rw [cmpN_eq hv, list_of_val h.lt h'.lt (by rw [HK.out, HK'.out]) hv]; simp
          · have hl : l ≠ l' := fun e => hv (by rw [e])
            rcases Nat.lt_or_gt_of_ne hv with h1 | h1
            · rw [cmpN_lt h1]; simp [hl]
            · rw [cmpN_gt h1]; simp [hl]
        generalize hz : cmpL l l' = z at *
        have HZ := Lib.hid hz
        clear hz
        go_enter Tryz.func29, Tryz.ntmps29
        go_wp2_with (go_at_call 99; refine (rcompare_any A B n c n d l l' _ h2 h2').mono ?_; rintro e w' ⟨rfl, q, rfl⟩; rw [HZ.out])
        go_ret
        exact ⟨by rw [HC.out]; rfl, below_drewN ((Below.refl _ _).alloc (Nat.le_refl _) _ |>.alloc (by simp) _) q⟩
      · have c3' : ((n : Int) == (m : Int)) = false := by simp; omega
        have HC : Hid (eqD ⟨neg, l, x⟩ ⟨neg, l', x⟩ = false) := by
          unfold Hid eqD
          have hl : l ≠ l' := fun e => c3 (by rw [← HK.out, ← HK'.out, e])
          simp [hl]
        go_enter Tryz.func29, Tryz.ntmps29
        go_wp2_with fail
        go_ret
        exact ⟨by rw [HC.out]; rfl, (Below.refl _ _).alloc (Nat.le_refl _) _ |>.alloc (by simp) _⟩
    · have c2' : (x == x') = false := by simp [c2]
      have HC : Hid (eqD ⟨neg, l, x⟩ ⟨neg, l', x'⟩ = false) := by unfold Hid eqD; simp [c2]
      go_enter Tryz.func29, Tryz.ntmps29
      go_wp2_with fail
      go_ret
      exact ⟨by rw [HC.out]; rfl, (Below.refl _ _).alloc (Nat.le_refl _) _ |>.alloc (by simp) _⟩
  · have c1' : (neg == neg') = false := by simp [c1]
    have HC : Hid (eqD ⟨neg, l, x⟩ ⟨neg', l', x'⟩ = false) := by unfold Hid eqD; simp [c1]
    go_enter Tryz.func29, Tryz.ntmps29
    go_wp2_with fail
    go_ret
    exact ⟨by rw [HC.out]; rfl, (Below.refl _ _).alloc (Nat.le_refl _) _ |>.alloc (by simp) _⟩

/-- A number is valid: canonical and in range. -/
def vld (d : Dy) : Bool := decide ((d.l = [] ∧ d.neg = false ∧ d.e = 0) ∨
  (d.l ≠ [] ∧ d.l.length ≤ 256 ∧ d.l.getLast? ≠ some 0 ∧ val d.l % 2 = 1 ∧ blen (val d.l) ≤ 4096 ∧ -16384 ≤ d.e ∧ d.e ≤ 16384 ∧ (blen (val d.l) : Int) + d.e ≤ 16384))

theorem vld_nil (neg : Bool) (x : Int) : vld ⟨neg, [], x⟩ = (!neg && x == 0) := by
  unfold vld
  cases neg
  · simp only [List.length_nil]
    by_cases h : x = 0 <;> simp [h]
  · simp
theorem val_odd {l : List Nat} {x : Nat} (hx : l[0]? = some x) : val l % 2 = x % 2 := by
  cases l with
  | nil => cases hx
  | cons y l => simp at hx; subst hx; rw [val]; omega
theorem vld_cons {neg : Bool} {l : List Nat} {x : Int} {n x0 xl : Nat} (hn : l.length = n) (h0 : l[0]? = some x0) (hl : l[n - 1]? = some xl) :
    vld ⟨neg, l, x⟩ = decide (n ≤ 256 ∧ x0 % 2 = 1 ∧ xl ≠ 0 ∧ blen (val l) ≤ 4096 ∧ -16384 ≤ x ∧ x ≤ 16384 ∧ (blen (val l) : Int) + x ≤ 16384) := by
  have hne : l ≠ [] := by rintro rfl; cases h0
  unfold vld
  refine decide_eq_decide.2 ?_
  simp only [List.getLast?_eq_getElem?, hn, hl, val_odd h0]
  constructor
  · rintro (⟨h, _⟩ | ⟨_, h1, h2, h3, h4⟩)
    · exact absurd h hne
    · exact ⟨h1, h3, fun e => h2 (by rw [e]), h4⟩
  · rintro ⟨h1, h2, h3, h4⟩
    exact .inr ⟨hne, h1, fun e => h3 (by injection e), h2, h4⟩
theorem inR_pos {v : Nat} {x : Int} (h : 0 < v) : inR v x = decide (blen v ≤ 4096 ∧ -16384 ≤ x ∧ x ≤ 16384 ∧ (blen v : Int) + x ≤ 16384) := by
  unfold inR
  refine decide_eq_decide.2 ⟨fun hh => hh.resolve_left (by omega), .inr⟩

set_option maxHeartbeats 1000000 in
theorem valid_any (neg : Bool) (A : Option Addr) (n c : Nat) (l : List Nat) (x : Int) (w : World) (h : SL w A n c l) (hn : n ≤ 100000000) :
    Calls Tryz.prog 42 #[.agg #[.bool neg, .slice A n c, .int .i64 x]] w fun e w' => e = .returned (.bool (vld ⟨neg, l, x⟩)) ∧ Below w.heap.size w w' := by
  by_cases h0 : n = 0
  · have hl := h.empty h0
    subst h0
    subst hl
    have HV := Lib.hid (vld_nil neg x)
    cases neg
    · go_enter Tryz.func42, Tryz.ntmps42
      go_wp2_with fail
      go_ret
      exact ⟨by rw [HV.out]; simp, (Below.refl _ _).alloc (Nat.le_refl _) _⟩
    · go_enter Tryz.func42, Tryz.ntmps42
      go_wp2_with fail
      go_ret
      exact ⟨by rw [HV.out]; simp, (Below.refl _ _).alloc (Nat.le_refl _) _⟩
  have h0' : ((n : Int) == 0) = false := by simp; omega
  have h1 := h.alloc (.cells #[.bool neg, .slice A n c, .int .i64 x] 25)
  have hlen := h.len
  have hcap := h.cap
  obtain ⟨b, off, x0, rfl, hb, hx, hcell, hlt⟩ := h.get (k := 0) (by omega)
  obtain ⟨xl, _, hxl, hcelll, hltl⟩ := h.get' (k := n - 1) (by omega)
  rw [Nat.add_zero] at hcell
  have HV := Lib.hid (vld_cons (neg := neg) (x := x) hlen hx hxl)
  have hpos : 0 < x0 → 0 < val l := by
    intro hp
    cases l with
    | nil => cases hx
    | cons y l => simp at hx; subst hx; rw [val]; omega
  have HPOS := Lib.hid hpos
  clear hx hxl hlen hpos
  by_cases c1 : n ≤ 256
  · by_cases c2 : x0 % 2 = 1
    · have c2' : ((x0 : Int) % 2 == 1) = true := by simp; omega
      by_cases c3 : xl = 0
      · subst c3
        go_enter Tryz.func42, Tryz.ntmps42
        go_wp2_with fail
        go_ret
        exact ⟨by rw [HV.out]; simp, (Below.refl _ _).alloc (Nat.le_refl _) _⟩
      · have c3' : ((xl : Int) != 0) = true := by simp; omega
        have HR : Hid (inR (val l) x = vld ⟨neg, l, x⟩) := by
          unfold Hid
          rw [HV.out, inR_pos (HPOS.out (by omega))]
          refine decide_eq_decide.2 ⟨fun hh => ⟨c1, c2, c3, hh⟩, fun hh => hh.2.2.2⟩
        clear c2 c3
        go_enter Tryz.func42, Tryz.ntmps42
        go_wp2_with (go_at_call 106; refine (inRange_any neg _ n c l x _ h1 hn).mono ?_; rintro e w' ⟨rfl, rfl⟩; rw [HR.out])
        go_ret
        exact ⟨rfl, (Below.refl _ _).alloc (Nat.le_refl _) _ |>.alloc (by simp) _⟩
    · have c2' : ((x0 : Int) % 2 == 1) = false := by simp; omega
      have HF : Hid (vld ⟨neg, l, x⟩ = false) := by unfold Hid; rw [HV.out]; simp; intro _ h; exact absurd h c2
      clear c2
      go_enter Tryz.func42, Tryz.ntmps42
      go_wp2_with fail
      go_ret
      exact ⟨by rw [HF.out]; rfl, (Below.refl _ _).alloc (Nat.le_refl _) _⟩
  · have HF : Hid (vld ⟨neg, l, x⟩ = false) := by unfold Hid; rw [HV.out]; simp; intro h; exact absurd h c1
    go_enter Tryz.func42, Tryz.ntmps42
    go_wp2_with fail
    go_ret
    exact ⟨by rw [HF.out]; rfl, (Below.refl _ _).alloc (Nat.le_refl _) _⟩

set_option maxHeartbeats 2000000 in
theorem rvalid_any (neg : Bool) (A : Option Addr) (n c : Nat) (l : List Nat) (x : Int) (w : World) (h : SL w A n c l) (hn : n ≤ 1000000) :
    Calls Tryz.prog 68 #[.agg #[.bool neg, .slice A n c, .int .i64 x]] w fun e w' => e = .returned (.bool (vld ⟨neg, l, x⟩)) ∧ Below w.heap.size w w' := by
  by_cases h0 : n = 0
  · have hl := h.empty h0
    subst h0
    subst hl
    have HV := Lib.hid (vld_nil neg x)
    cases neg
    · go_enter Tryz.func68, Tryz.ntmps68
      go_wp2_with fail
      go_ret
      exact ⟨by rw [HV.out]; simp, (Below.refl _ _).alloc (Nat.le_refl _) _⟩
    · go_enter Tryz.func68, Tryz.ntmps68
      go_wp2_with fail
      go_ret
      exact ⟨by rw [HV.out]; simp, (Below.refl _ _).alloc (Nat.le_refl _) _⟩
  have h0' : ((n : Int) == 0) = false := by simp; omega
  have h1 := h.alloc (.cells #[.bool neg, .slice A n c, .int .i64 x] 25)
  have hlen := h.len
  have hcap := h.cap
  obtain ⟨b, off, x0, rfl, hb, hx, hcell, hlt⟩ := h.get (k := 0) (by omega)
  obtain ⟨xl, _, hxl, hcelll, hltl⟩ := h.get' (k := n - 1) (by omega)
  rw [Nat.add_zero] at hcell
  have HV := Lib.hid (vld_cons (neg := neg) (x := x) hlen hx hxl)
  have HT : Hid (xl ≠ 0 → Trim l) := fun h0 e => h0 (by rw [List.getLast?_eq_getElem?, hlen, hxl] at e; injection e)
  have hand := and_one32 x0 hlt
  clear hx hxl hlen
  by_cases c1 : n ≤ 256
  · by_cases c3 : xl = 0
    · subst c3
      have HF : Hid (vld ⟨neg, l, x⟩ = false) := by unfold Hid; rw [HV.out]; simp
      clear hand
      go_enter Tryz.func68, Tryz.ntmps68
      go_wp2_with fail
      go_ret
      exact ⟨by rw [HF.out]; rfl, (Below.refl _ _).alloc (Nat.le_refl _) _⟩
    · have c3' : ((xl : Int) == 0) = false := by simp; omega
      by_cases c2 : x0 % 2 = 1
      · have ha : bits .and .u32 (x0 : Int) 1 = 1 := by rw [hand, c2]; rfl
        clear hand
        by_cases c4 : -16384 ≤ x
        · by_cases c5 : x ≤ 16384
          · have hbl : blen (val l) ≤ 100000000 := by
              have h2 := val_lt l h.lt
              rw [base_pow, h.len] at h2
              have := blen_le_of _ _ h2
              omega
            have HR : Hid (vld ⟨neg, l, x⟩ = decide (blen (val l) ≤ 4096 ∧ (blen (val l) : Int) + x ≤ 16384)) := by
              unfold Hid
              rw [HV.out]
              refine decide_eq_decide.2 ⟨fun hh => ⟨hh.2.2.2.1, hh.2.2.2.2.2.2⟩, fun hh => ⟨c1, c2, c3, hh.1, c4, c5, hh.2⟩⟩
            have hT := HT.out c3
            clear HT c2 c3
            generalize hN : blen (val l) = N at *
            have HN := Lib.hid hN
            clear hN
            by_cases c6 : N ≤ 4096
            · go_enter Tryz.func68, Tryz.ntmps68
              go_wp2_with (go_at_call 134; refine (rbits_any _ n c l _ h1 hn hT).mono ?_; rintro e w' ⟨rfl, rfl⟩; rw [HN.out])
              go_ret
              exact ⟨by rw [HR.out]; simp [c6], (Below.refl _ _).alloc (Nat.le_refl _) _⟩
            · go_enter Tryz.func68, Tryz.ntmps68
              go_wp2_with (go_at_call 134; refine (rbits_any _ n c l _ h1 hn hT).mono ?_; rintro e w' ⟨rfl, rfl⟩; rw [HN.out])
              go_ret
              exact ⟨by rw [HR.out]; simp; omega, (Below.refl _ _).alloc (Nat.le_refl _) _⟩
          · have HF : Hid (vld ⟨neg, l, x⟩ = false) := by unfold Hid; rw [HV.out]; exact decide_eq_false (fun hh => c5 hh.2.2.2.2.2.1)
            clear c2 c3
            go_enter Tryz.func68, Tryz.ntmps68
            go_wp2_with fail
            go_ret
            exact ⟨by rw [HF.out]; rfl, (Below.refl _ _).alloc (Nat.le_refl _) _⟩
        · have HF : Hid (vld ⟨neg, l, x⟩ = false) := by unfold Hid; rw [HV.out]; exact decide_eq_false (fun hh => c4 hh.2.2.2.2.1)
          clear c2 c3
          go_enter Tryz.func68, Tryz.ntmps68
          go_wp2_with fail
          go_ret
          exact ⟨by rw [HF.out]; rfl, (Below.refl _ _).alloc (Nat.le_refl _) _⟩
      · have ha : bits .and .u32 (x0 : Int) 1 = 0 := by rw [hand, show x0 % 2 = 0 from by omega]; rfl
        have HF : Hid (vld ⟨neg, l, x⟩ = false) := by unfold Hid; rw [HV.out]; exact decide_eq_false (fun hh => c2 hh.2.1)
        clear hand c2 c3
        go_enter Tryz.func68, Tryz.ntmps68
        go_wp2_with fail
        go_ret
        exact ⟨by rw [HF.out]; rfl, (Below.refl _ _).alloc (Nat.le_refl _) _⟩
  · have HF : Hid (vld ⟨neg, l, x⟩ = false) := by unfold Hid; rw [HV.out]; exact decide_eq_false (fun hh => c1 hh.1)
    clear hand
    go_enter Tryz.func68, Tryz.ntmps68
    go_wp2_with fail
    go_ret
    exact ⟨by rw [HF.out]; rfl, (Below.refl _ _).alloc (Nat.le_refl _) _⟩

end Go.Proofs.YtekajoifgdpmlaaGreatDoor
