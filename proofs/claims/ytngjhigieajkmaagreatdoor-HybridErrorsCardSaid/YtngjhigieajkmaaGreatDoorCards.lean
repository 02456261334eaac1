/-
  DERIVED. GIVEN WITH THE SEED: THE CARDS: each row of YtngjhigieajkmaaGreatDoorRows.lean that lists a variable, with what it lists TIED to the program's text (the seventh form; the later family's looks); each row that meets fmt, with fmt's text TOLD by the authors' own Lean function (tested against real Go, not proved from fmt's source: count such statements apart). THE CARD IS WHAT COUNTS. Prove the row's statement (the work); the ties are given (YtngjhigieajkmaaGreatDoorTie.lean); close each card by the builder's one call (the guide's Derived/Test/ToyasCard.lean, 'card_holds'). Laid BY PROGRAM, IN A SANDBOX (cutbox-door.mjs). By AI agents, Wed Nov 11 2026. No macro, syntax, notation, axiom, sorry.
-/
import Derived.Test.YtngjhigieajkmaaGreatDoorRows
import GoSem.ClaimSeven
namespace Go.Proofs.YtngjhigieajkmaaGreatDoor
namespace Rows

/-- THE TIED CARD OF 'flowpipelaw42.HybridErrors'. -/
def hybridErrorsCard : Claim7 := { stood := { row := hybridErrorsRow, standIns := [], harness := (true, "4052f6daefc424b9a41ee221cca11fee265497dfe2e9139b25adc494a485b72d"), looks := true }, kinds := [], alts := [], laidByText := true, laidKinds := [.data, .data], laidTests := true, laidLooks := .later }
def HybridErrorsCardSaid : Prop := Claim7.holds Tryz.pinned (.plain (OpenSpec.ofChange hybridErrorsSpec)) hybridErrorsCard

/-- THE SECOND FORM's CARD OF 'flowpipelaw42.HybridErrors'. -/
def hybridErrorsUptoCard : Claim7 := { stood := { row := hybridErrorsUptoRow, standIns := [], harness := (true, "4052f6daefc424b9a41ee221cca11fee265497dfe2e9139b25adc494a485b72d"), looks := true }, kinds := [], alts := [], laidByText := true, laidKinds := [.data, .data], laidTests := true, laidLooks := .later }
def HybridErrorsUptoCardSaid : Prop := Claim7.holds Tryz.pinned (.plain (OpenSpec.upto hybridErrorsSpec)) hybridErrorsUptoCard
end Rows
end Go.Proofs.YtngjhigieajkmaaGreatDoor
