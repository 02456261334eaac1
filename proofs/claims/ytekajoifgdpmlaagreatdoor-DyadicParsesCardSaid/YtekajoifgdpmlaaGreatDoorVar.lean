/- A variable of type Dyadic: its block, the number that it holds, the number's limbs; what the numbers' functions return is short. -/
import Derived.Test.YtekajoifgdpmlaaGreatDoorPair
import Derived.Test.YtekajoifgdpmlaaGreatDoorM9
import Derived.Test.YtekajoifgdpmlaaGreatDoorE1
namespace Go.Proofs.YtekajoifgdpmlaaGreatDoor
open Go.RowKit Pl Go.Shelf

/-- Block g is a variable that holds the number (-1)^neg l 2^x, whose limbs lie at A. -/
structure Var (W : World) (g : Nat) (neg : Bool) (A : Option Addr) (n c : Nat) (l : List Nat) (x : Int) : Prop where
  blk : Blk W g 25 #[.bool neg, .slice A n c, .int .i64 x]
  sl : SL W A n c l
section
variable {W W' : World} {g : Nat} {neg : Bool} {A : Option Addr} {n c : Nat} {l : List Nat} {x : Int}
theorem Var.next (h : Var W g neg A n c l x) (hb : Below W.heap.size W W') : Var W' g neg A n c l x := ⟨h.blk.below hb h.blk.lt, h.sl.below hb⟩
theorem Var.cells (h : Var W g neg A n c l x) : W.cell? ⟨g, 0, none⟩ = some (.bool neg) ∧ W.cell? ⟨g, 1, none⟩ = some (.slice A n c) ∧ W.cell? ⟨g, 2, none⟩ = some (.int .i64 x) := h.blk.cells3
theorem Var.drew (h : Var W g neg A n c l x) : Var W.drew g neg A n c l x := ⟨h.blk, h.sl.drew⟩
theorem Var.lt (h : Var W g neg A n c l x) : g < W.heap.size := h.blk.lt
theorem Var.new (W : World) (neg : Bool) (x : Int) (h : SL W A n c l) : Var (W.alloc (.cells #[.bool neg, .slice A n c, .int .i64 x] 25)) W.heap.size neg A n c l x := ⟨Blk.new W _ _, h.alloc _⟩
theorem Var.newAt (W : World) (neg : Bool) (x : Int) {g : Nat} (hg : g = W.heap.size) (h : SL W A n c l) : Var (W.alloc (.cells #[.bool neg, .slice A n c, .int .i64 x] 25)) g neg A n c l x := by
  subst hg; exact Var.new W neg x h
/-- The cells of a variable, in every world that came from W. -/
theorem Var.keep (h : Var W g neg A n c l x) : ∀ V, Below W.heap.size W V → V.cell? ⟨g, 0, none⟩ = some (.bool neg) ∧ V.cell? ⟨g, 1, none⟩ = some (.slice A n c) ∧ V.cell? ⟨g, 2, none⟩ = some (.int .i64 x) := fun _ hV => (h.next hV).cells
end
theorem bdrew (W : World) : Below W.heap.size W W.drew := below_drewN (Below.refl _ _) 1

theorem vld_short {d : Dy} (h : vld d = true) : d.l.length ≤ 256 := by
  by_cases hl : d.l = []
  · rw [hl]; simp
  · exact (vld_bounds h hl).1
theorem add_out {a b x : Dy} {k : Int} (hL : Limbs a.l) (hL' : Limbs b.l) (h : (x, k) = addD a b) : x.l.length ≤ 256 ∧ (k = 0 ∨ x = zeroD) := by
  rcases add_zero_or a b hL hL' with ⟨y, hy⟩ | ⟨j, hj, hy⟩
  · rw [hy] at h
    obtain ⟨rfl, rfl⟩ := Prod.mk.inj h
    exact ⟨vld_short (add_zd hL hL' hy).2.2.1, .inl rfl⟩
  · rw [hy] at h
    obtain ⟨rfl, rfl⟩ := Prod.mk.inj h
    exact ⟨by simp [zeroD], .inr rfl⟩
theorem sub_out {a b x : Dy} {k : Int} (hL : Limbs a.l) (hL' : Limbs b.l) (h : (x, k) = subD a b) : x.l.length ≤ 256 ∧ (k = 0 ∨ x = zeroD) := by
  by_cases hv : vld a = true ∧ vld b = true
  · have e : subD a b = addD a (negD b) := by
      unfold subD addD
      rw [if_pos hv, if_pos ⟨hv.1, vld_neg hv.2⟩]
    rw [e] at h
    exact add_out hL (limbs_neg hL') h
  · unfold subD at h
    rw [if_neg hv] at h
    obtain ⟨rfl, rfl⟩ := Prod.mk.inj h
    exact ⟨by simp [zeroD], .inr rfl⟩
theorem mul_out {a b x : Dy} {k : Int} (h : (x, k) = mulD a b) : x.l.length ≤ 256 ∧ (k = 0 ∨ x = zeroD) := by
  rcases mul_err a b with ⟨y, hy⟩ | ⟨j, hj, hy⟩
  · rw [hy] at h
    obtain ⟨rfl, rfl⟩ := Prod.mk.inj h
    exact ⟨vld_short (mul_zd hy).2.2.1, .inl rfl⟩
  · rw [hy] at h
    obtain ⟨rfl, rfl⟩ := Prod.mk.inj h
    exact ⟨by simp [zeroD], .inr rfl⟩
theorem scale_out {a x : Dy} {j k : Int} (h : (x, k) = scaleD a j) : x.l.length ≤ 256 ∧ (k = 0 ∨ x = zeroD) := by
  unfold scaleD at h
  split at h
  · rcases check_err a.neg (val a.l) (a.e + j) with ⟨y, hy⟩ | hy
    · rw [hy] at h
      obtain ⟨rfl, rfl⟩ := Prod.mk.inj h
      rename_i hv
      refine ⟨vld_short (check_zd (K := 16384 + j.natAbs) ?_ hy).2.1, .inl rfl⟩
      have := vld_exp hv.1
      omega
    · rw [hy] at h
      obtain ⟨rfl, rfl⟩ := Prod.mk.inj h
      exact ⟨by simp [zeroD], .inr rfl⟩
  · obtain ⟨rfl, rfl⟩ := Prod.mk.inj h
    exact ⟨by simp [zeroD], .inr rfl⟩

end Go.Proofs.YtekajoifgdpmlaaGreatDoor
