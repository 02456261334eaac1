/- Two numbers made in one statement ('x, y := f(..), g(..)'): blocks and limbs apart from one another. -/
import Derived.Test.YtekajoifgdpmlaaGreatDoorE2
namespace Go.Proofs.YtekajoifgdpmlaaGreatDoor
open Go.RowKit Pl Go.Shelf

/-- The limbs do not lie in block g. -/
def Off (A : Option Addr) (n g : Nat) : Prop := 0 < n → ∃ ad, A = some ad ∧ ad.block ≠ g
theorem Off.fresh {A : Option Addr} {n g B : Nat} (h : Fresh B A n) (hg : g < B) : Off A n g := fun hn => by
  obtain ⟨ad, e, hb⟩ := h hn
  exact ⟨ad, e, by omega⟩
theorem Off.old {w : World} {A : Option Addr} {n c g : Nat} {l : List Nat} (h : SL w A n c l) (hg : w.heap.size ≤ g) : Off A n g := fun hn => by
  obtain ⟨b, off, e, hb, _⟩ := h.at_ hn
  exact ⟨_, e, by simp only; omega⟩
theorem SL.off {w : World} {A : Option Addr} {n c g : Nat} {l : List Nat} (h : SL w A n c l) (hf : Off A n g) (i : Nat) (x : Value) : SL (w.setCell ⟨g, i, none⟩ x) A n c l := by
  refine ⟨h.len, h.cap, h.max, h.lt, fun hn => ?_⟩
  obtain ⟨b, off, rfl, hb, hc⟩ := h.at_ hn
  obtain ⟨ad, e, hB⟩ := hf hn
  injection e with e
  subst e
  have hB : b ≠ g := hB
  refine ⟨b, off, rfl, by simpa [World.setCell] using hb, fun j y hy => ?_⟩
  rw [World.cell?_setCell_other _ _ _ _ (by intro e; injection e with e1; omega)]
  exact hc j y hy
theorem SL.off3 {w : World} {A : Option Addr} {n c g : Nat} {l : List Nat} (h : SL w A n c l) (hf : Off A n g) (x0 x1 x2 : Value) : SL (((w.setCell ⟨g, 0, none⟩ x0).setCell ⟨g, 1, none⟩ x1).setCell ⟨g, 2, none⟩ x2) A n c l :=
  ((h.off hf 0 x0).off hf 1 x1).off hf 2 x2
theorem Blk.off3 {w : World} {g g' : Nat} {t : TypeId} {cs : Array Value} (h : Blk w g' t cs) (hg : g' ≠ g) (x0 x1 x2 : Value) : Blk (((w.setCell ⟨g, 0, none⟩ x0).setCell ⟨g, 1, none⟩ x1).setCell ⟨g, 2, none⟩ x2) g' t cs :=
  ((h.far (p := ⟨g, 0, none⟩) hg x0).far (p := ⟨g, 1, none⟩) hg x1).far (p := ⟨g, 2, none⟩) hg x2
theorem bal {W V : World} (h : Below W.heap.size W V) (o : Obj) : Below W.heap.size W (V.alloc o) := h.alloc h.size o

/-- Two numbers in blocks of their own, in a world that came from w. -/
def Pair (w : World) (d d' : Dy) (v v' : Value) (W : World) : Prop := ∃ (g g' : Nat) (A A' : Option Addr) (n c n' c' : Nat), v = .pointer (some ⟨g, 0, none⟩) ∧ v' = .pointer (some ⟨g', 0, none⟩) ∧
  Blk W g 25 #[.bool d.neg, .slice A n c, .int .i64 d.e] ∧ SL W A n c d.l ∧ Blk W g' 25 #[.bool d'.neg, .slice A' n' c', .int .i64 d'.e] ∧ SL W A' n' c' d'.l ∧ Below w.heap.size w W

end Go.Proofs.YtekajoifgdpmlaaGreatDoor
