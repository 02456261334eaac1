/- dyadic.Neg, Abs: what each call computes. -/
import Derived.Test.YtjhokljoomeilaaGreatDoorD1
namespace Go.Proofs.YtjhokljoomeilaaGreatDoor
open Go.RowKit Pl Go.Shelf

theorem keep3 {B g : Nat} {W W' : World} {a b c : Value} (hb : Below B W W') (hg : g < B) (h : W.cell? ⟨g, 0, none⟩ = some a ∧ W.cell? ⟨g, 1, none⟩ = some b ∧ W.cell? ⟨g, 2, none⟩ = some c) :
    W'.cell? ⟨g, 0, none⟩ = some a ∧ W'.cell? ⟨g, 1, none⟩ = some b ∧ W'.cell? ⟨g, 2, none⟩ = some c :=
  ⟨(hb.cell (p := ⟨g, 0, none⟩) hg).trans h.1, (hb.cell (p := ⟨g, 1, none⟩) hg).trans h.2.1, (hb.cell (p := ⟨g, 2, none⟩) hg).trans h.2.2⟩
theorem Blk.cells3 {w : World} {g : Nat} {t : TypeId} {a b c : Value} (h : Blk w g t #[a, b, c]) : w.cell? ⟨g, 0, none⟩ = some a ∧ w.cell? ⟨g, 1, none⟩ = some b ∧ w.cell? ⟨g, 2, none⟩ = some c :=
  ⟨by rw [h.cell 0]; rfl, by rw [h.cell 1]; rfl, by rw [h.cell 2]; rfl⟩

def negD (d : Dy) : Dy := if vld d = true ∧ d.l ≠ [] then ⟨!d.neg, d.l, d.e⟩ else zeroD
def absD (d : Dy) : Dy := if vld d = true ∧ d.l ≠ [] then ⟨false, d.l, d.e⟩ else zeroD

set_option maxHeartbeats 1000000 in
theorem negD_any (neg : Bool) (A : Option Addr) (n c : Nat) (l : List Nat) (x : Int) (w : World) (h : SL w A n c l) (hn : n ≤ 100000000) :
    Calls Tryz.prog 31 #[.agg #[.bool neg, .slice A n c, .int .i64 x]] w (RetD (negD ⟨neg, l, x⟩) w) := by
  have h1 := (h.alloc (.cells #[.bool neg, .slice A n c, .int .i64 x] 24)).alloc (.cells #[.bool false, .slice none 0 0, .int .i64 0] 24)
  have HB : Hid (negD ⟨neg, l, x⟩ = if vld ⟨neg, l, x⟩ = true ∧ n ≠ 0 then ⟨!neg, l, x⟩ else zeroD) := by
    unfold Hid negD
    simp only [ne_nil_iff h]
  generalize negD ⟨neg, l, x⟩ = r at *
  generalize hv : vld ⟨neg, l, x⟩ = v at *
  have HV := Lib.hid hv
  clear hv
  go_enter Tryz.func31, Tryz.ntmps31
  go_wp2_with fail
  refine (valid_any neg A n c l x _ h1 hn).mono ?_
  rintro e w1 ⟨rfl, hb1⟩
  rw [HV.out]
  obtain ⟨hc, hf⟩ := bcell hb1
  have hsz : w.heap.size + 2 ≤ w1.heap.size := by simpa using hb1.size
  have hB0 := (Blk.new (w.alloc (.cells #[.bool neg, .slice A n c, .int .i64 x] 24)) 24 #[.bool false, .slice none 0 0, .int .i64 0]).below hb1 (by simp)
  rw [World.size_alloc] at hB0
  have hBa := ((Blk.new w 24 #[.bool neg, .slice A n c, .int .i64 x]).alloc (.cells #[.bool false, .slice none 0 0, .int .i64 0] 24)).below hb1 (by simp <;> omega)
  have hbw := (((ballo w (.cells #[.bool neg, .slice A n c, .int .i64 x] 24)).alloc (by simp) (.cells #[.bool false, .slice none 0 0, .int .i64 0] 24))).trans (hb1.mono (by simp <;> omega))
  cases v
  · go_wp2_with fail
    refine bodyPost_ret (resD Tryz.results31 rfl (hB0.set3 _ _ _)) rfl ?_
    rw [HB.out]
    exact ⟨none, 0, 0, rfl, SL.nil _, Fresh.zero, below_set3 hbw (by simp) _ _ _⟩
  · by_cases h0 : n = 0
    · subst h0
      go_wp2_with fail
      refine bodyPost_ret (resD Tryz.results31 rfl (hB0.set3 _ _ _)) rfl ?_
      rw [HB.out]
      exact ⟨none, 0, 0, rfl, SL.nil _, Fresh.zero, below_set3 hbw (by simp) _ _ _⟩
    · have h0' : ((n : Int) == 0) = false := by simp; omega
      have HB2 : Hid (r = ⟨!neg, l, x⟩) := by unfold Hid; rw [HB.out, if_pos ⟨rfl, h0⟩]
      have h2 := h1.below hb1
      have hS := hBa.cells3
      clear hc hf
      obtain ⟨s0, s1, s2⟩ := hS
      go_wp2_with fail
      go_region_held3 (fun W => W.cell? ⟨w.heap.size, 0, none⟩ = some (.bool neg) ∧ W.cell? ⟨w.heap.size, 1, none⟩ = some (.slice A n c) ∧ W.cell? ⟨w.heap.size, 2, none⟩ = some (.int .i64 x))
        (first | exact ⟨s0, s1, s2⟩ | exact keep3 hb3 (by simp; omega) ⟨s0, s1, s2⟩ | exact keep3 (below_set3 (B := w.heap.size + 1) (Below.refl _ _) (Nat.le_refl _) _ _ _) (by omega) (keep3 hb3 (by simp; omega) ⟨s0, s1, s2⟩))
        (first | (go_at_call 68; refine (clone_any A n c l _ h2.drew (by omega)).mono ?_; rintro e w3 ⟨A3, n3, c3, rfl, hs3, hf3, hb3⟩; have hB3 := hB0.drew.below hb3 (by simp; omega); obtain ⟨t0, t1, t2⟩ := hB3.cells3; have f0 := hB3.frozen 0; have f1 := hB3.frozen 1; have f2 := hB3.frozen 2))
      go_wp2_with fail
      refine bodyPost_ret (resD Tryz.results31 rfl (hB3.set3 _ _ _)) rfl ?_
      rw [HB2.out]
      have hbw3 := bnext (below_drewN hbw 1) hb3
      have hlt : w.heap.size + 1 < w1.drew.heap.size := by simp; omega
      exact ⟨A3, n3, c3, rfl, (((hs3.far hf3 hlt 0 _).far hf3 hlt 1 _).far hf3 hlt 2 _), hf3.mono (by simp; omega), below_set3 hbw3 (by omega) _ _ _⟩

end Go.Proofs.YtjhokljoomeilaaGreatDoor
