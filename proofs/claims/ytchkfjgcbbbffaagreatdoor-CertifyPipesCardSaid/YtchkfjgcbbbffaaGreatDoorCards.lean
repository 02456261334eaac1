/-
  DERIVED. GIVEN WITH THE SEED: THE CARDS: each row of YtchkfjgcbbbffaaGreatDoorRows.lean that lists a variable, with what it lists TIED to the program's text (the seventh form; the later family's looks); each row that meets fmt, with fmt's text TOLD by the authors' own Lean function (tested against real Go, not proved from fmt's source: count such statements apart). THE CARD IS WHAT COUNTS. Prove the row's statement (the work); the ties are given (YtchkfjgcbbbffaaGreatDoorTie.lean); close each card by the builder's one call (the guide's Derived/Test/ToyasCard.lean, 'card_holds'). Laid BY PROGRAM, IN A SANDBOX (cutbox-door.mjs). By AI agents, Wed Nov 11 2026. No macro, syntax, notation, axiom, sorry.
-/
import Derived.Test.YtchkfjgcbbbffaaGreatDoorRows
import GoSem.ClaimSeven
namespace Go.Proofs.YtchkfjgcbbbffaaGreatDoor
namespace Rows

/-- THE TIED CARD OF 'flowpipelaw47.CertifyOf'. -/
def certifyOfCard : Claim7 := { stood := { row := certifyOfRow, standIns := [], harness := (true, "08a07b98a3fea195c9c31849cd3ab889e99a1a12361147341452d8ecf9b8f304"), looks := true }, kinds := [], alts := [], laidByText := true, laidKinds := [.data, .data], laidTests := true, laidLooks := .later }
def CertifyOfCardSaid : Prop := Claim7.holds Tryz.pinned (.plain (OpenSpec.ofChange certifyOfSpec)) certifyOfCard

/-- THE TIED CARD OF 'flowpipelaw47.CertifySpoils'. -/
def certifySpoilsCard : Claim7 := { stood := { row := certifySpoilsRow, standIns := [], harness := (true, "08a07b98a3fea195c9c31849cd3ab889e99a1a12361147341452d8ecf9b8f304"), looks := true }, kinds := [], alts := [], laidByText := true, laidKinds := [.data, .data], laidTests := true, laidLooks := .later }
def CertifySpoilsCardSaid : Prop := Claim7.holds Tryz.pinned (.plain (OpenSpec.ofChange certifySpoilsSpec)) certifySpoilsCard

/-- THE TIED CARD OF 'flowpipelaw47.CertifyInflates'. -/
def certifyInflatesCard : Claim7 := { stood := { row := certifyInflatesRow, standIns := [], harness := (true, "08a07b98a3fea195c9c31849cd3ab889e99a1a12361147341452d8ecf9b8f304"), looks := true }, kinds := [], alts := [], laidByText := true, laidKinds := [.data, .data], laidTests := true, laidLooks := .later }
def CertifyInflatesCardSaid : Prop := Claim7.holds Tryz.pinned (.plain (OpenSpec.ofChange certifyInflatesSpec)) certifyInflatesCard

/-- THE TIED CARD OF 'flowpipelaw47.CertifyPipes'. -/
def certifyPipesCard : Claim7 := { stood := { row := certifyPipesRow, standIns := [], harness := (true, "08a07b98a3fea195c9c31849cd3ab889e99a1a12361147341452d8ecf9b8f304"), looks := true }, kinds := [], alts := [], laidByText := true, laidKinds := [.data, .data], laidTests := true, laidLooks := .later }
def CertifyPipesCardSaid : Prop := Claim7.holds Tryz.pinned (.plain (OpenSpec.ofChange certifyPipesSpec)) certifyPipesCard

/-- THE SECOND FORM's CARD OF 'flowpipelaw47.CertifyOf'. -/
def certifyOfUptoCard : Claim7 := { stood := { row := certifyOfUptoRow, standIns := [], harness := (true, "08a07b98a3fea195c9c31849cd3ab889e99a1a12361147341452d8ecf9b8f304"), looks := true }, kinds := [], alts := [], laidByText := true, laidKinds := [.data, .data], laidTests := true, laidLooks := .later }
def CertifyOfUptoCardSaid : Prop := Claim7.holds Tryz.pinned (.plain (OpenSpec.upto certifyOfSpec)) certifyOfUptoCard

/-- THE SECOND FORM's CARD OF 'flowpipelaw47.CertifySpoils'. -/
def certifySpoilsUptoCard : Claim7 := { stood := { row := certifySpoilsUptoRow, standIns := [], harness := (true, "08a07b98a3fea195c9c31849cd3ab889e99a1a12361147341452d8ecf9b8f304"), looks := true }, kinds := [], alts := [], laidByText := true, laidKinds := [.data, .data], laidTests := true, laidLooks := .later }
def CertifySpoilsUptoCardSaid : Prop := Claim7.holds Tryz.pinned (.plain (OpenSpec.upto certifySpoilsSpec)) certifySpoilsUptoCard

/-- THE SECOND FORM's CARD OF 'flowpipelaw47.CertifyInflates'. -/
def certifyInflatesUptoCard : Claim7 := { stood := { row := certifyInflatesUptoRow, standIns := [], harness := (true, "08a07b98a3fea195c9c31849cd3ab889e99a1a12361147341452d8ecf9b8f304"), looks := true }, kinds := [], alts := [], laidByText := true, laidKinds := [.data, .data], laidTests := true, laidLooks := .later }
def CertifyInflatesUptoCardSaid : Prop := Claim7.holds Tryz.pinned (.plain (OpenSpec.upto certifyInflatesSpec)) certifyInflatesUptoCard

/-- THE SECOND FORM's CARD OF 'flowpipelaw47.CertifyPipes'. -/
def certifyPipesUptoCard : Claim7 := { stood := { row := certifyPipesUptoRow, standIns := [], harness := (true, "08a07b98a3fea195c9c31849cd3ab889e99a1a12361147341452d8ecf9b8f304"), looks := true }, kinds := [], alts := [], laidByText := true, laidKinds := [.data, .data], laidTests := true, laidLooks := .later }
def CertifyPipesUptoCardSaid : Prop := Claim7.holds Tryz.pinned (.plain (OpenSpec.upto certifyPipesSpec)) certifyPipesUptoCard
end Rows
end Go.Proofs.YtchkfjgcbbbffaaGreatDoor
