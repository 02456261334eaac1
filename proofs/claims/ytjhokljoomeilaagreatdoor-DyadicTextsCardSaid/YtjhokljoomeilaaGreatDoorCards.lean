/-
  DERIVED. GIVEN WITH THE SEED: THE CARDS: each row of YtjhokljoomeilaaGreatDoorRows.lean that lists a variable, with what it lists TIED to the program's text (the seventh form; the later family's looks); each row that meets fmt, with fmt's text TOLD by the authors' own Lean function (tested against real Go, not proved from fmt's source: count such statements apart). THE CARD IS WHAT COUNTS. Prove the row's statement (the work); the ties are given (YtjhokljoomeilaaGreatDoorTie.lean); close each card by the builder's one call (the guide's Derived/Test/ToyasCard.lean, 'card_holds'). Laid BY PROGRAM, IN A SANDBOX (cutbox-door.mjs). By AI agents, Wed Nov 11 2026. No macro, syntax, notation, axiom, sorry.
-/
import Derived.Test.YtjhokljoomeilaaGreatDoorRows
import GoSem.ClaimSeven
namespace Go.Proofs.YtjhokljoomeilaaGreatDoor
namespace Rows

/-- THE TIED CARD OF 'flowpipelaw02.DyadicComputes'. -/
def dyadicComputesCard : Claim7 := { stood := { row := dyadicComputesRow, standIns := [], harness := (true, "a1b0e321f1c7bee00f5756757c8a4fbda1446d1314078d577aaff6a82a9f777d"), looks := true }, kinds := [], alts := [], laidByText := true, laidKinds := [.data, .data, .data], laidTests := true, laidLooks := .later }
def DyadicComputesCardSaid : Prop := Claim7.holds Tryz.pinned (.plain (OpenSpec.ofChange dyadicComputesSpec)) dyadicComputesCard

/-- THE TIED CARD OF 'flowpipelaw02.DyadicTexts'. -/
def dyadicTextsCard : Claim7 := { stood := { row := dyadicTextsRow, standIns := [], harness := (true, "a1b0e321f1c7bee00f5756757c8a4fbda1446d1314078d577aaff6a82a9f777d"), looks := true }, kinds := [], alts := [], laidByText := true, laidKinds := [.data, .data, .data, .sentinel, .sentinel], laidTests := true, laidLooks := .later }
def DyadicTextsCardSaid : Prop := Claim7.holds Tryz.pinned (.plain (OpenSpec.ofChange dyadicTextsSpec)) dyadicTextsCard

/-- THE TIED CARD OF 'flowpipelaw02.DyadicParses'. -/
def dyadicParsesCard : Claim7 := { stood := { row := dyadicParsesRow, standIns := [], harness := (true, "a1b0e321f1c7bee00f5756757c8a4fbda1446d1314078d577aaff6a82a9f777d"), looks := true }, kinds := [], alts := [], laidByText := true, laidKinds := [.data, .data, .data, .sentinel, .sentinel], laidTests := true, laidLooks := .later }
def DyadicParsesCardSaid : Prop := Claim7.holds Tryz.pinned (.plain (OpenSpec.ofChange dyadicParsesSpec)) dyadicParsesCard

/-- THE SECOND FORM's CARD OF 'flowpipelaw02.DyadicComputes'. -/
def dyadicComputesUptoCard : Claim7 := { stood := { row := dyadicComputesUptoRow, standIns := [], harness := (true, "a1b0e321f1c7bee00f5756757c8a4fbda1446d1314078d577aaff6a82a9f777d"), looks := true }, kinds := [], alts := [], laidByText := true, laidKinds := [.data, .data, .data], laidTests := true, laidLooks := .later }
def DyadicComputesUptoCardSaid : Prop := Claim7.holds Tryz.pinned (.plain (OpenSpec.upto dyadicComputesSpec)) dyadicComputesUptoCard

/-- THE SECOND FORM's CARD OF 'flowpipelaw02.DyadicTexts'. -/
def dyadicTextsUptoCard : Claim7 := { stood := { row := dyadicTextsUptoRow, standIns := [], harness := (true, "a1b0e321f1c7bee00f5756757c8a4fbda1446d1314078d577aaff6a82a9f777d"), looks := true }, kinds := [], alts := [], laidByText := true, laidKinds := [.data, .data, .data, .sentinel, .sentinel], laidTests := true, laidLooks := .later }
def DyadicTextsUptoCardSaid : Prop := Claim7.holds Tryz.pinned (.plain (OpenSpec.upto dyadicTextsSpec)) dyadicTextsUptoCard

/-- THE SECOND FORM's CARD OF 'flowpipelaw02.DyadicParses'. -/
def dyadicParsesUptoCard : Claim7 := { stood := { row := dyadicParsesUptoRow, standIns := [], harness := (true, "a1b0e321f1c7bee00f5756757c8a4fbda1446d1314078d577aaff6a82a9f777d"), looks := true }, kinds := [], alts := [], laidByText := true, laidKinds := [.data, .data, .data, .sentinel, .sentinel], laidTests := true, laidLooks := .later }
def DyadicParsesUptoCardSaid : Prop := Claim7.holds Tryz.pinned (.plain (OpenSpec.upto dyadicParsesSpec)) dyadicParsesUptoCard
end Rows
end Go.Proofs.YtjhokljoomeilaaGreatDoor
