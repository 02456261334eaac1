/- The reference's Sign, Bits, Top, Neg: what each call computes. -/
import Derived.Test.YtekajoifgdpmlaaGreatDoorL2
namespace Go.Proofs.YtekajoifgdpmlaaGreatDoor
open Go.RowKit Pl Go.Shelf

set_option maxHeartbeats 400000 in
theorem rsign_any (neg : Bool) (A : Option Addr) (n c : Nat) (l : List Nat) (x : Int) (w : World) (h : SL w A n c l) (hv : vld ⟨neg, l, x⟩ = true) :
    Calls Tryz.prog 69 #[.agg #[.bool neg, .slice A n c, .int .i64 x]] w fun e w' => e = .returned (.int .i64 (sgnD ⟨neg, l, x⟩)) ∧ Below w.heap.size w w' := by
  have HB : Hid (sgnD ⟨neg, l, x⟩ = if n ≠ 0 then (if neg then -1 else 1) else 0) := by
    unfold Hid sgnD
    simp only [ne_nil_iff h, hv, true_and]
  generalize sgnD ⟨neg, l, x⟩ = r at *
  by_cases h0 : n = 0
  · subst h0
    go_enter Tryz.func69, Tryz.ntmps69
    go_wp2_with fail
    go_ret
    exact ⟨by rw [HB.out]; rfl, ballo _ _⟩
  · have h0' : ((n : Int) == 0) = false := by simp; omega
    cases neg
    all_goals
      go_enter Tryz.func69, Tryz.ntmps69
      go_wp2_with fail
      go_ret
      exact ⟨by rw [HB.out, if_pos h0]; rfl, ballo _ _⟩

theorem vld_trim {neg : Bool} {l : List Nat} {x : Int} (hv : vld ⟨neg, l, x⟩ = true) : Trim l := by
  by_cases hn : l = []
  · subst hn; simp [Trim]
  · exact (vld_bounds hv hn).2.1

set_option maxHeartbeats 400000 in
theorem rtop_any (neg : Bool) (A : Option Addr) (n c : Nat) (l : List Nat) (x : Int) (w : World) (h : SL w A n c l) (hn : n ≤ 1000000) (hv : vld ⟨neg, l, x⟩ = true) :
    Calls Tryz.prog 216 #[.agg #[.bool neg, .slice A n c, .int .i64 x]] w fun e w' => e = .returned (.int .i64 (topD ⟨neg, l, x⟩)) ∧ Below w.heap.size w w' := by
  have HB : Hid (topD ⟨neg, l, x⟩ = if n ≠ 0 then (blen (val l) : Int) + x else 0) := by
    unfold Hid topD
    simp only [ne_nil_iff h, hv, true_and]
  have HBD : Hid (n ≠ 0 → blen (val l) ≤ 4096 ∧ -16384 ≤ x ∧ x ≤ 16384) := fun h2 => by
    have := vld_bounds hv ((ne_nil_iff h).2 h2)
    exact ⟨this.2.2.2.1, this.2.2.2.2.1, this.2.2.2.2.2.1⟩
  have HTr := Lib.hid (vld_trim hv)
  generalize topD ⟨neg, l, x⟩ = r at *
  have h1 := h.alloc (.cells #[.bool neg, .slice A n c, .int .i64 x] 25)
  by_cases h0 : n = 0
  · subst h0
    go_enter Tryz.func216, Tryz.ntmps216
    go_wp2_with fail
    go_ret
    exact ⟨by rw [HB.out]; rfl, ballo _ _⟩
  · have h0' : ((n : Int) == 0) = false := by simp; omega
    obtain ⟨hb3, hb4, hb5⟩ := HBD.out h0
    have HB2 : Hid (r = (blen (val l) : Int) + x) := by unfold Hid; rw [HB.out, if_pos h0]
    clear hv
    generalize hN : blen (val l) = N at *
    have HN := Lib.hid hN
    clear hN
    have hw : IntKind.i64.wrap ((N : Int) + x) = (N : Int) + x := IntWalk.i64_in _ (by omega)
    go_enter Tryz.func216, Tryz.ntmps216
    go_wp2_with fail
    have c0 := (Blk.new w 25 #[.bool neg, .slice A n c, .int .i64 x]).cells3
    obtain ⟨-, c1, c2⟩ := c0
    have HQ : Hid (∀ q, Calls Tryz.prog 134 #[.slice A n c] ((w.alloc (.cells #[.bool neg, .slice A n c, .int .i64 x] 25)).drewN q) fun e w' => e = .returned (.int .i64 (N : Int)) ∧ w' = (w.alloc (.cells #[.bool neg, .slice A n c, .int .i64 x] 25)).drewN q) := fun q => by
      have := rbits_any A n c l _ (h1.drewN q) hn HTr.out
      rw [HN.out] at this
      exact this.mono (fun e w' ⟨he, hw⟩ => ⟨he, hw.symm⟩)
    have hbb := ballo w (.cells #[.bool neg, .slice A n c, .int .i64 x] 25)
    generalize w.alloc (.cells #[.bool neg, .slice A n c, .int .i64 x] 25) = W at *
    go_quiet ((go_at_call 134; exact Calls.quiet_of_same (HQ.out _)))
    go_wp2_with fail
    go_ret
    exact ⟨by rw [HB2.out]; rfl, below_drewN hbb _⟩

/-- The opposite, which shares the limbs of its argument. -/
def rnegD (d : Dy) : Dy := ⟨!d.neg && decide (d.l ≠ []), d.l, d.e⟩
theorem rneg_eq (d : Dy) (hv : vld d = true) : rnegD d = negD d := by
  obtain ⟨neg, l, x⟩ := d
  by_cases hl : l = []
  · subst hl
    rw [vld_nil] at hv
    simp at hv
    obtain ⟨rfl, rfl⟩ := hv
    rfl
  · unfold rnegD negD
    rw [if_pos ⟨hv, hl⟩]
    simp [hl]

theorem Blk.newAt (w : World) (t : TypeId) (cs : Array Value) {g : Nat} (hg : g = w.heap.size) : Blk (w.alloc (.cells cs t)) g t cs := by
  subst hg
  exact Blk.new w t cs

set_option maxHeartbeats 4000000 in
theorem rneg_any (neg : Bool) (A : Option Addr) (n c : Nat) (l : List Nat) (x : Int) (w : World) (h : SL w A n c l) :
    Calls Tryz.prog 218 #[.agg #[.bool neg, .slice A n c, .int .i64 x]] w fun e w' => e = .returned (.agg #[.bool (rnegD ⟨neg, l, x⟩).neg, .slice A n c, .int .i64 x]) ∧ Below w.heap.size w w' := by
  have HB : Hid ((rnegD ⟨neg, l, x⟩).neg = (!neg && decide (n ≠ 0))) := by
    unfold Hid rnegD
    simp only []
    congr 1
    exact decide_eq_decide.2 (ne_nil_iff h)
  rw [HB.out]
  cases neg
  · by_cases h0 : n = 0
    · subst h0
      rw [show (!false && decide (0 ≠ 0)) = false from rfl]
      go_enter Tryz.func218, Tryz.ntmps218
      go_wp2_with fail
      refine bodyPost_ret (resD Tryz.results218 rfl (Blk.newAt _ _ _ (by simp))) rfl ?_
      exact ⟨by first | rfl | rw [h0n], (ballo w _).alloc (by simp) _⟩
    · have h0' : decide (0 < (n : Int)) = true := by simp; omega
      have h0'' : decide (n ≠ 0) = true := by simp; omega
      have h0n : decide (0 < n) = true := by simp; omega
      rw [h0'', show (!false && true) = true from rfl]
      go_enter Tryz.func218, Tryz.ntmps218
      go_wp2_with fail
      refine bodyPost_ret (resD Tryz.results218 rfl (Blk.newAt _ _ _ (by simp))) rfl ?_
      exact ⟨by first | rfl | rw [h0n], (ballo w _).alloc (by simp) _⟩
  · rw [show (!true && decide (n ≠ 0)) = false from rfl]
    go_enter Tryz.func218, Tryz.ntmps218
    go_wp2_with fail
    refine bodyPost_ret (resD Tryz.results218 rfl (Blk.newAt _ _ _ (by simp))) rfl ?_
    exact ⟨by first | rfl | rw [h0n], (ballo w _).alloc (by simp) _⟩

end Go.Proofs.YtekajoifgdpmlaaGreatDoor
