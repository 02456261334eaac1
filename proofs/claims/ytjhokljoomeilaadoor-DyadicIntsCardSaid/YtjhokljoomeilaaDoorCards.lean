/-
  DERIVED. GIVEN WITH THE SEED: THE CARDS: each row of YtjhokljoomeilaaDoorRows.lean that lists a variable, with what it lists TIED to the program's text (the seventh form; the later family's looks); each row that meets fmt, with fmt's text TOLD by the authors' own Lean function (tested against real Go, not proved from fmt's source: count such statements apart). THE CARD IS WHAT COUNTS. Prove the row's statement (the work); the ties are given (YtjhokljoomeilaaDoorTie.lean); close each card by the builder's one call (the guide's Derived/Test/ToyasCard.lean, 'card_holds'). Laid BY PROGRAM, IN A SANDBOX (cutbox-door.mjs). By AI agents, Wed Nov 11 2026. No macro, syntax, notation, axiom, sorry.
-/
import Derived.Test.YtjhokljoomeilaaDoorRows
import GoSem.ClaimSeven
namespace Go.Proofs.YtjhokljoomeilaaDoor
namespace Rows

/-- THE TIED CARD OF 'flowpipelaw02.DyadicMakes'. -/
def dyadicMakesCard : Claim7 := { stood := { row := dyadicMakesRow, standIns := [], harness := (true, "217aa3af47c23024b9e16f082cb791677a5e2d0e71bb6d1384b2bf5dbe9c6abc"), looks := false }, kinds := [], alts := [], laidByText := true, laidKinds := [.data, .data, .data], laidTests := true, laidLooks := .later }
def DyadicMakesCardSaid : Prop := Claim7.holds Tryd.pinned (.plain (OpenSpec.ofChange dyadicMakesSpec)) dyadicMakesCard

/-- THE TIED CARD OF 'flowpipelaw02.DyadicValid'. -/
def dyadicValidCard : Claim7 := { stood := { row := dyadicValidRow, standIns := [], harness := (true, "217aa3af47c23024b9e16f082cb791677a5e2d0e71bb6d1384b2bf5dbe9c6abc"), looks := false }, kinds := [], alts := [], laidByText := true, laidKinds := [.data, .data, .data], laidTests := true, laidLooks := .later }
def DyadicValidCardSaid : Prop := Claim7.holds Tryd.pinned (.plain (OpenSpec.ofChange dyadicValidSpec)) dyadicValidCard

/-- THE TIED CARD OF 'flowpipelaw02.DyadicTops'. -/
def dyadicTopsCard : Claim7 := { stood := { row := dyadicTopsRow, standIns := [], harness := (true, "217aa3af47c23024b9e16f082cb791677a5e2d0e71bb6d1384b2bf5dbe9c6abc"), looks := false }, kinds := [], alts := [], laidByText := true, laidKinds := [.data, .data, .data], laidTests := true, laidLooks := .later }
def DyadicTopsCardSaid : Prop := Claim7.holds Tryd.pinned (.plain (OpenSpec.ofChange dyadicTopsSpec)) dyadicTopsCard

/-- THE TIED CARD OF 'flowpipelaw02.DyadicRing'. -/
def dyadicRingCard : Claim7 := { stood := { row := dyadicRingRow, standIns := [], harness := (true, "217aa3af47c23024b9e16f082cb791677a5e2d0e71bb6d1384b2bf5dbe9c6abc"), looks := false }, kinds := [], alts := [], laidByText := true, laidKinds := [.data, .data, .data], laidTests := true, laidLooks := .later }
def DyadicRingCardSaid : Prop := Claim7.holds Tryd.pinned (.plain (OpenSpec.ofChange dyadicRingSpec)) dyadicRingCard

/-- THE TIED CARD OF 'flowpipelaw02.DyadicScales'. -/
def dyadicScalesCard : Claim7 := { stood := { row := dyadicScalesRow, standIns := [], harness := (true, "217aa3af47c23024b9e16f082cb791677a5e2d0e71bb6d1384b2bf5dbe9c6abc"), looks := false }, kinds := [], alts := [], laidByText := true, laidKinds := [.data, .data, .data], laidTests := true, laidLooks := .later }
def DyadicScalesCardSaid : Prop := Claim7.holds Tryd.pinned (.plain (OpenSpec.ofChange dyadicScalesSpec)) dyadicScalesCard

/-- THE TIED CARD OF 'flowpipelaw02.DyadicOrder'. -/
def dyadicOrderCard : Claim7 := { stood := { row := dyadicOrderRow, standIns := [], harness := (true, "217aa3af47c23024b9e16f082cb791677a5e2d0e71bb6d1384b2bf5dbe9c6abc"), looks := false }, kinds := [], alts := [], laidByText := true, laidKinds := [.data, .data, .data], laidTests := true, laidLooks := .later }
def DyadicOrderCardSaid : Prop := Claim7.holds Tryd.pinned (.plain (OpenSpec.ofChange dyadicOrderSpec)) dyadicOrderCard

/-- THE TIED CARD OF 'flowpipelaw02.DyadicInts'. -/
def dyadicIntsCard : Claim7 := { stood := { row := dyadicIntsRow, standIns := [], harness := (true, "217aa3af47c23024b9e16f082cb791677a5e2d0e71bb6d1384b2bf5dbe9c6abc"), looks := false }, kinds := [], alts := [], laidByText := true, laidKinds := [.data, .data, .data], laidTests := true, laidLooks := .later }
def DyadicIntsCardSaid : Prop := Claim7.holds Tryd.pinned (.plain (OpenSpec.ofChange dyadicIntsSpec)) dyadicIntsCard

/-- THE SECOND FORM's CARD OF 'flowpipelaw02.DyadicMakes'. -/
def dyadicMakesUptoCard : Claim7 := { stood := { row := dyadicMakesUptoRow, standIns := [], harness := (true, "217aa3af47c23024b9e16f082cb791677a5e2d0e71bb6d1384b2bf5dbe9c6abc"), looks := false }, kinds := [], alts := [], laidByText := true, laidKinds := [.data, .data, .data], laidTests := true, laidLooks := .later }
def DyadicMakesUptoCardSaid : Prop := Claim7.holds Tryd.pinned (.plain (OpenSpec.upto dyadicMakesSpec)) dyadicMakesUptoCard

/-- THE SECOND FORM's CARD OF 'flowpipelaw02.DyadicValid'. -/
def dyadicValidUptoCard : Claim7 := { stood := { row := dyadicValidUptoRow, standIns := [], harness := (true, "217aa3af47c23024b9e16f082cb791677a5e2d0e71bb6d1384b2bf5dbe9c6abc"), looks := false }, kinds := [], alts := [], laidByText := true, laidKinds := [.data, .data, .data], laidTests := true, laidLooks := .later }
def DyadicValidUptoCardSaid : Prop := Claim7.holds Tryd.pinned (.plain (OpenSpec.upto dyadicValidSpec)) dyadicValidUptoCard

/-- THE SECOND FORM's CARD OF 'flowpipelaw02.DyadicTops'. -/
def dyadicTopsUptoCard : Claim7 := { stood := { row := dyadicTopsUptoRow, standIns := [], harness := (true, "217aa3af47c23024b9e16f082cb791677a5e2d0e71bb6d1384b2bf5dbe9c6abc"), looks := false }, kinds := [], alts := [], laidByText := true, laidKinds := [.data, .data, .data], laidTests := true, laidLooks := .later }
def DyadicTopsUptoCardSaid : Prop := Claim7.holds Tryd.pinned (.plain (OpenSpec.upto dyadicTopsSpec)) dyadicTopsUptoCard

/-- THE SECOND FORM's CARD OF 'flowpipelaw02.DyadicRing'. -/
def dyadicRingUptoCard : Claim7 := { stood := { row := dyadicRingUptoRow, standIns := [], harness := (true, "217aa3af47c23024b9e16f082cb791677a5e2d0e71bb6d1384b2bf5dbe9c6abc"), looks := false }, kinds := [], alts := [], laidByText := true, laidKinds := [.data, .data, .data], laidTests := true, laidLooks := .later }
def DyadicRingUptoCardSaid : Prop := Claim7.holds Tryd.pinned (.plain (OpenSpec.upto dyadicRingSpec)) dyadicRingUptoCard

/-- THE SECOND FORM's CARD OF 'flowpipelaw02.DyadicScales'. -/
def dyadicScalesUptoCard : Claim7 := { stood := { row := dyadicScalesUptoRow, standIns := [], harness := (true, "217aa3af47c23024b9e16f082cb791677a5e2d0e71bb6d1384b2bf5dbe9c6abc"), looks := false }, kinds := [], alts := [], laidByText := true, laidKinds := [.data, .data, .data], laidTests := true, laidLooks := .later }
def DyadicScalesUptoCardSaid : Prop := Claim7.holds Tryd.pinned (.plain (OpenSpec.upto dyadicScalesSpec)) dyadicScalesUptoCard

/-- THE SECOND FORM's CARD OF 'flowpipelaw02.DyadicOrder'. -/
def dyadicOrderUptoCard : Claim7 := { stood := { row := dyadicOrderUptoRow, standIns := [], harness := (true, "217aa3af47c23024b9e16f082cb791677a5e2d0e71bb6d1384b2bf5dbe9c6abc"), looks := false }, kinds := [], alts := [], laidByText := true, laidKinds := [.data, .data, .data], laidTests := true, laidLooks := .later }
def DyadicOrderUptoCardSaid : Prop := Claim7.holds Tryd.pinned (.plain (OpenSpec.upto dyadicOrderSpec)) dyadicOrderUptoCard

/-- THE SECOND FORM's CARD OF 'flowpipelaw02.DyadicInts'. -/
def dyadicIntsUptoCard : Claim7 := { stood := { row := dyadicIntsUptoRow, standIns := [], harness := (true, "217aa3af47c23024b9e16f082cb791677a5e2d0e71bb6d1384b2bf5dbe9c6abc"), looks := false }, kinds := [], alts := [], laidByText := true, laidKinds := [.data, .data, .data], laidTests := true, laidLooks := .later }
def DyadicIntsUptoCardSaid : Prop := Claim7.holds Tryd.pinned (.plain (OpenSpec.upto dyadicIntsSpec)) dyadicIntsUptoCard
end Rows
end Go.Proofs.YtjhokljoomeilaaDoor
