/- dyadic.Neg, Abs: what each call computes. -/
import Derived.Test.YtekajoifgdpmlaaGreatDoorD1
namespace Go.Proofs.YtekajoifgdpmlaaGreatDoor
open Go.RowKit Pl Go.Shelf

theorem keep3 {B g : Nat} {W W' : World} {a b c : Value} (hb : Below B W W') (hg : g < B) (h : W.cell? ⟨g, 0, none⟩ = some a ∧ W.cell? ⟨g, 1, none⟩ = some b ∧ W.cell? ⟨g, 2, none⟩ = some c) :
    W'.cell? ⟨g, 0, none⟩ = some a ∧ W'.cell? ⟨g, 1, none⟩ = some b ∧ W'.cell? ⟨g, 2, none⟩ = some c :=
  ⟨(hb.cell (p := ⟨g, 0, none⟩) hg).trans h.1, (hb.cell (p := ⟨g, 1, none⟩) hg).trans h.2.1, (hb.cell (p := ⟨g, 2, none⟩) hg).trans h.2.2⟩
theorem Blk.cells3 {w : World} {g : Nat} {t : TypeId} {a b c : Value} (h : Blk w g t #[a, b, c]) : w.cell? ⟨g, 0, none⟩ = some a ∧ w.cell? ⟨g, 1, none⟩ = some b ∧ w.cell? ⟨g, 2, none⟩ = some c :=
  ⟨by rw [h.cell 0]; rfl, by rw [h.cell 1]; rfl, by rw [h.cell 2]; rfl⟩

def negD (d : Dy) : Dy := if vld d = true ∧ d.l ≠ [] then ⟨!d.neg, d.l, d.e⟩ else zeroD
def absD (d : Dy) : Dy := if vld d = true ∧ d.l ≠ [] then ⟨false, d.l, d.e⟩ else zeroD

end Go.Proofs.YtekajoifgdpmlaaGreatDoor
