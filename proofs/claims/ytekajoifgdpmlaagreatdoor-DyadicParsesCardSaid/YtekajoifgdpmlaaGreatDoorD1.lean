/- dyadic.Sign, Bits, Top: what each call computes. -/
import Derived.Test.YtekajoifgdpmlaaGreatDoorR3
import Derived.Test.YtekajoifgdpmlaaGreatDoorB3
import Derived.Deep.RegionHeld3
namespace Go.Proofs.YtekajoifgdpmlaaGreatDoor
open Go.RowKit Pl Go.Shelf

/-- The sign of a number. -/
def sgnD (d : Dy) : Int := if vld d = true ∧ d.l ≠ [] then (if d.neg then -1 else 1) else 0
def bitsD (d : Dy) : Int := if vld d = true then (blen (val d.l) : Int) else 0
def topD (d : Dy) : Int := if vld d = true ∧ d.l ≠ [] then (blen (val d.l) : Int) + d.e else 0

theorem ne_nil_iff {w : World} {A : Option Addr} {n c : Nat} {l : List Nat} (h : SL w A n c l) : l ≠ [] ↔ n ≠ 0 := by
  rw [← h.len]
  constructor
  · intro h1 h2; exact h1 (List.eq_nil_of_length_eq_zero h2)
  · rintro h1 rfl; exact h1 rfl

set_option maxHeartbeats 400000 in
theorem signD_any (neg : Bool) (A : Option Addr) (n c : Nat) (l : List Nat) (x : Int) (w : World) (h : SL w A n c l) (hn : n ≤ 100000000) :
    Calls Tryz.prog 63 #[.agg #[.bool neg, .slice A n c, .int .i64 x]] w fun e w' => e = .returned (.int .i64 (sgnD ⟨neg, l, x⟩)) ∧ Below w.heap.size w w' := by
  have h1 := h.alloc (.cells #[.bool neg, .slice A n c, .int .i64 x] 25)
  have HB : Hid (sgnD ⟨neg, l, x⟩ = if vld ⟨neg, l, x⟩ = true ∧ n ≠ 0 then (if neg then -1 else 1) else 0) := by
    unfold Hid sgnD
    simp only [ne_nil_iff h]
  generalize sgnD ⟨neg, l, x⟩ = r at *
  generalize hv : vld ⟨neg, l, x⟩ = v at *
  have HV := Lib.hid hv
  clear hv
  go_enter Tryz.func63, Tryz.ntmps63
  go_wp2_with fail
  refine (valid_any neg A n c l x _ h1 hn).mono ?_
  rintro e w1 ⟨rfl, hb1⟩
  rw [HV.out]
  obtain ⟨hc, hf⟩ := bcell hb1
  cases v
  · go_wp2_with fail
    go_ret
    exact ⟨by rw [HB.out]; rfl, bnext (ballo _ _) hb1⟩
  · by_cases h0 : n = 0
    · subst h0
      go_wp2_with fail
      go_ret
      exact ⟨by rw [HB.out]; rfl, bnext (ballo _ _) hb1⟩
    · have h0' : ((n : Int) == 0) = false := by simp; omega
      have HB2 : Hid (r = if neg then -1 else 1) := by unfold Hid; rw [HB.out, if_pos ⟨rfl, h0⟩]
      cases neg
      · go_wp2_with fail
        go_ret
        exact ⟨by rw [HB2.out]; rfl, bnext (ballo _ _) hb1⟩
      · go_wp2_with fail
        go_ret
        exact ⟨by rw [HB2.out]; rfl, bnext (ballo _ _) hb1⟩

theorem vld_bounds {d : Dy} (h : vld d = true) (hne : d.l ≠ []) : d.l.length ≤ 256 ∧ Trim d.l ∧ val d.l % 2 = 1 ∧ blen (val d.l) ≤ 4096 ∧ -16384 ≤ d.e ∧ d.e ≤ 16384 ∧ (blen (val d.l) : Int) + d.e ≤ 16384 := by
  unfold vld at h
  rcases of_decide_eq_true h with ⟨h, _⟩ | ⟨_, h⟩
  · exact absurd h hne
  · exact h

set_option maxHeartbeats 400000 in
theorem topD_any (neg : Bool) (A : Option Addr) (n c : Nat) (l : List Nat) (x : Int) (w : World) (h : SL w A n c l) (hn : n ≤ 100000000) :
    Calls Tryz.prog 156 #[.agg #[.bool neg, .slice A n c, .int .i64 x]] w fun e w' => e = .returned (.int .i64 (topD ⟨neg, l, x⟩)) ∧ Below w.heap.size w w' := by
  have h1 := h.alloc (.cells #[.bool neg, .slice A n c, .int .i64 x] 25)
  have HB : Hid (topD ⟨neg, l, x⟩ = if vld ⟨neg, l, x⟩ = true ∧ n ≠ 0 then (blen (val l) : Int) + x else 0) := by
    unfold Hid topD
    simp only [ne_nil_iff h]
  have HBD : Hid (vld ⟨neg, l, x⟩ = true → n ≠ 0 → blen (val l) ≤ 4096 ∧ -16384 ≤ x ∧ x ≤ 16384) := fun h1 h2 => by
    have := vld_bounds h1 ((ne_nil_iff h).2 h2)
    exact ⟨this.2.2.2.1, this.2.2.2.2.1, this.2.2.2.2.2.1⟩
  generalize topD ⟨neg, l, x⟩ = r at *
  generalize hv : vld ⟨neg, l, x⟩ = v at *
  have HV := Lib.hid hv
  clear hv
  go_enter Tryz.func156, Tryz.ntmps156
  go_wp2_with fail
  refine (valid_any neg A n c l x _ h1 hn).mono ?_
  rintro e w1 ⟨rfl, hb1⟩
  rw [HV.out]
  obtain ⟨hc, hf⟩ := bcell hb1
  cases v
  · go_wp2_with fail
    go_ret
    exact ⟨by rw [HB.out]; rfl, bnext (ballo _ _) hb1⟩
  · by_cases h0 : n = 0
    · subst h0
      go_wp2_with fail
      go_ret
      exact ⟨by rw [HB.out]; rfl, bnext (ballo _ _) hb1⟩
    · have h0' : ((n : Int) == 0) = false := by simp; omega
      have HB2 : Hid (r = (blen (val l) : Int) + x) := by unfold Hid; rw [HB.out, if_pos ⟨rfl, h0⟩]
      obtain ⟨hb3, hb4, hb5⟩ := HBD.out rfl h0
      have h2 := h1.below hb1
      generalize hN : blen (val l) = N at *
      have HN := Lib.hid hN
      clear hN
      have c0 := hc w.heap.size 1 (by simp)
      have c1 := hc w.heap.size 2 (by simp)
      simp at c0 c1
      have hw : IntKind.i64.wrap ((N : Int) + x) = (N : Int) + x := IntWalk.i64_in _ (by omega)
      have HQ : Hid (∀ q, Calls Tryz.prog 168 #[.slice A n c] (w1.drewN q) fun e w' => e = .returned (.int .i64 (N : Int)) ∧ w' = w1.drewN q) := fun q => by
        have := size_any A n c l _ (h2.drewN q) hn
        rw [HN.out] at this
        exact this.mono (fun e w' ⟨he, hw⟩ => ⟨he, hw.symm⟩)
      go_wp2_with fail
      go_quiet ((go_at_call 168; exact Calls.quiet_of_same (HQ.out _)))
      go_wp2_with fail
      go_ret
      exact ⟨by rw [HB2.out]; rfl, below_drewN (bnext (ballo _ _) hb1) _⟩

end Go.Proofs.YtekajoifgdpmlaaGreatDoor
