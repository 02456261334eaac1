/- The reference's Sign, Bits, Top, Neg: what each call computes. -/
import Derived.Test.YtjhokljoomeilaaGreatDoorL2
namespace Go.Proofs.YtjhokljoomeilaaGreatDoor
open Go.RowKit Pl Go.Shelf

theorem vld_trim {neg : Bool} {l : List Nat} {x : Int} (hv : vld ⟨neg, l, x⟩ = true) : Trim l := by
  by_cases hn : l = []
  · subst hn; simp [Trim]
  · exact (vld_bounds hv hn).2.1

/-- The opposite, which shares the limbs of its argument. -/
def rnegD (d : Dy) : Dy := ⟨!d.neg && decide (d.l ≠ []), d.l, d.e⟩
theorem rneg_eq (d : Dy) (hv : vld d = true) : rnegD d = negD d := by
  obtain ⟨neg, l, x⟩ := d
  by_cases hl : l = []
  · subst hl
    rw [vld_nil] at hv
    simp at hv
    obtain ⟨rfl, rfl⟩ := hv
    rfl
  · unfold rnegD negD
    rw [if_pos ⟨hv, hl⟩]
    simp [hl]

theorem Blk.newAt (w : World) (t : TypeId) (cs : Array Value) {g : Nat} (hg : g = w.heap.size) : Blk (w.alloc (.cells cs t)) g t cs := by
  subst hg
  exact Blk.new w t cs

set_option maxHeartbeats 4000000 in
theorem rneg_any (neg : Bool) (A : Option Addr) (n c : Nat) (l : List Nat) (x : Int) (w : World) (h : SL w A n c l) :
    Calls Tryz.prog 32 #[.agg #[.bool neg, .slice A n c, .int .i64 x]] w fun e w' => e = .returned (.agg #[.bool (rnegD ⟨neg, l, x⟩).neg, .slice A n c, .int .i64 x]) ∧ Below w.heap.size w w' := by
  have HB : Hid ((rnegD ⟨neg, l, x⟩).neg = (!neg && decide (n ≠ 0))) := by
    unfold Hid rnegD
    simp only []
    congr 1
    exact decide_eq_decide.2 (ne_nil_iff h)
  rw [HB.out]
  cases neg
  · by_cases h0 : n = 0
    · subst h0
      rw [show (!false && decide (0 ≠ 0)) = false from rfl]
      go_enter Tryz.func32, Tryz.ntmps32
      go_wp2_with fail
      refine bodyPost_ret (resD Tryz.results32 rfl (Blk.newAt _ _ _ (by simp))) rfl ?_
      exact ⟨by first | rfl | rw [h0n], (ballo w _).alloc (by simp) _⟩
    · have h0' : decide (0 < (n : Int)) = true := by simp; omega
      have h0'' : decide (n ≠ 0) = true := by simp; omega
      have h0n : decide (0 < n) = true := by simp; omega
      rw [h0'', show (!false && true) = true from rfl]
      go_enter Tryz.func32, Tryz.ntmps32
      go_wp2_with fail
      refine bodyPost_ret (resD Tryz.results32 rfl (Blk.newAt _ _ _ (by simp))) rfl ?_
      exact ⟨by first | rfl | rw [h0n], (ballo w _).alloc (by simp) _⟩
  · rw [show (!true && decide (n ≠ 0)) = false from rfl]
    go_enter Tryz.func32, Tryz.ntmps32
    go_wp2_with fail
    refine bodyPost_ret (resD Tryz.results32 rfl (Blk.newAt _ _ _ (by simp))) rfl ?_
    exact ⟨by first | rfl | rw [h0n], (ballo w _).alloc (by simp) _⟩

end Go.Proofs.YtjhokljoomeilaaGreatDoor
