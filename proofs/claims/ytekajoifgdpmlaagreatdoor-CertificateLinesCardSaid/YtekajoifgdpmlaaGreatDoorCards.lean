/-
  DERIVED. GIVEN WITH THE SEED: THE CARDS: each row of YtekajoifgdpmlaaGreatDoorRows.lean that lists a variable, with what it lists TIED to the program's text (the seventh form; the later family's looks); each row that meets fmt, with fmt's text TOLD by the authors' own Lean function (tested against real Go, not proved from fmt's source: count such statements apart). THE CARD IS WHAT COUNTS. Prove the row's statement (the work); the ties are given (YtekajoifgdpmlaaGreatDoorTie.lean); close each card by the builder's one call (the guide's Derived/Test/ToyasCard.lean, 'card_holds'). Laid BY PROGRAM, IN A SANDBOX (cutbox-door.mjs). By AI agents, Wed Nov 11 2026. No macro, syntax, notation, axiom, sorry.
-/
import Derived.Test.YtekajoifgdpmlaaGreatDoorRows
import GoSem.ClaimSeven
namespace Go.Proofs.YtekajoifgdpmlaaGreatDoor
namespace Rows

/-- THE TIED CARD OF 'flowpipelaw02.DyadicParses'. -/
def dyadicParsesCard : Claim7 := { stood := { row := dyadicParsesRow, standIns := [], harness := (true, "7d669eb2ea8686705adf2aac3110558dc9108f86db913a9734b40288e72871c2"), looks := true }, kinds := [], alts := [], laidByText := true, laidKinds := [.data, .data, .data, .sentinel, .sentinel], laidTests := true, laidLooks := .later }
def DyadicParsesCardSaid : Prop := Claim7.holds Tryz.pinned (.plain (OpenSpec.ofChange dyadicParsesSpec)) dyadicParsesCard

/-- THE TIED CARD OF 'flowpipelaw46.CertificateValid'. -/
def certificateValidCard : Claim7 := { stood := { row := certificateValidRow, standIns := [], harness := (true, "7d669eb2ea8686705adf2aac3110558dc9108f86db913a9734b40288e72871c2"), looks := true }, kinds := [], alts := [], laidByText := true, laidKinds := [.data, .data, .data, .data, .sentinel, .sentinel, .pinned], laidTests := true, laidLooks := .later }
def CertificateValidCardSaid : Prop := Claim7.holds Tryz.pinned (.plain (OpenSpec.ofChange certificateValidSpec)) certificateValidCard

/-- THE TIED CARD OF 'flowpipelaw46.CertificateTexts'. -/
def certificateTextsCard : Claim7 := { stood := { row := certificateTextsRow, standIns := [], harness := (true, "7d669eb2ea8686705adf2aac3110558dc9108f86db913a9734b40288e72871c2"), looks := true }, kinds := [], alts := [], laidByText := true, laidKinds := [.data, .data, .data, .data, .sentinel, .sentinel, .pinned], laidTests := true, laidLooks := .later }
def CertificateTextsCardSaid : Prop := Claim7.holds Tryz.pinned (.plain (OpenSpec.ofChange certificateTextsSpec)) certificateTextsCard

/-- THE TIED CARD OF 'flowpipelaw46.CertificateEqual'. -/
def certificateEqualCard : Claim7 := { stood := { row := certificateEqualRow, standIns := [], harness := (true, "7d669eb2ea8686705adf2aac3110558dc9108f86db913a9734b40288e72871c2"), looks := true }, kinds := [], alts := [], laidByText := true, laidKinds := [.data, .data, .data, .data, .sentinel, .sentinel, .pinned], laidTests := true, laidLooks := .later }
def CertificateEqualCardSaid : Prop := Claim7.holds Tryz.pinned (.plain (OpenSpec.ofChange certificateEqualSpec)) certificateEqualCard

/-- THE TIED CARD OF 'flowpipelaw46.CertificateSpoilt'. -/
def certificateSpoiltCard : Claim7 := { stood := { row := certificateSpoiltRow, standIns := [], harness := (true, "7d669eb2ea8686705adf2aac3110558dc9108f86db913a9734b40288e72871c2"), looks := true }, kinds := [], alts := [], laidByText := true, laidKinds := [.data, .data, .data, .data, .sentinel, .sentinel, .pinned], laidTests := true, laidLooks := .later }
def CertificateSpoiltCardSaid : Prop := Claim7.holds Tryz.pinned (.plain (OpenSpec.ofChange certificateSpoiltSpec)) certificateSpoiltCard

/-- THE TIED CARD OF 'flowpipelaw46.CertificateLines'. -/
def certificateLinesCard : Claim7 := { stood := { row := certificateLinesRow, standIns := [], harness := (true, "7d669eb2ea8686705adf2aac3110558dc9108f86db913a9734b40288e72871c2"), looks := true }, kinds := [], alts := [], laidByText := true, laidKinds := [.data, .data, .data, .data, .sentinel, .sentinel, .pinned], laidTests := true, laidLooks := .later }
def CertificateLinesCardSaid : Prop := Claim7.holds Tryz.pinned (.plain (OpenSpec.ofChange certificateLinesSpec)) certificateLinesCard

/-- THE SECOND FORM's CARD OF 'flowpipelaw02.DyadicParses'. -/
def dyadicParsesUptoCard : Claim7 := { stood := { row := dyadicParsesUptoRow, standIns := [], harness := (true, "7d669eb2ea8686705adf2aac3110558dc9108f86db913a9734b40288e72871c2"), looks := true }, kinds := [], alts := [], laidByText := true, laidKinds := [.data, .data, .data, .sentinel, .sentinel], laidTests := true, laidLooks := .later }
def DyadicParsesUptoCardSaid : Prop := Claim7.holds Tryz.pinned (.plain (OpenSpec.upto dyadicParsesSpec)) dyadicParsesUptoCard

/-- THE SECOND FORM's CARD OF 'flowpipelaw46.CertificateValid'. -/
def certificateValidUptoCard : Claim7 := { stood := { row := certificateValidUptoRow, standIns := [], harness := (true, "7d669eb2ea8686705adf2aac3110558dc9108f86db913a9734b40288e72871c2"), looks := true }, kinds := [], alts := [], laidByText := true, laidKinds := [.data, .data, .data, .data, .sentinel, .sentinel, .pinned], laidTests := true, laidLooks := .later }
def CertificateValidUptoCardSaid : Prop := Claim7.holds Tryz.pinned (.plain (OpenSpec.upto certificateValidSpec)) certificateValidUptoCard

/-- THE SECOND FORM's CARD OF 'flowpipelaw46.CertificateTexts'. -/
def certificateTextsUptoCard : Claim7 := { stood := { row := certificateTextsUptoRow, standIns := [], harness := (true, "7d669eb2ea8686705adf2aac3110558dc9108f86db913a9734b40288e72871c2"), looks := true }, kinds := [], alts := [], laidByText := true, laidKinds := [.data, .data, .data, .data, .sentinel, .sentinel, .pinned], laidTests := true, laidLooks := .later }
def CertificateTextsUptoCardSaid : Prop := Claim7.holds Tryz.pinned (.plain (OpenSpec.upto certificateTextsSpec)) certificateTextsUptoCard

/-- THE SECOND FORM's CARD OF 'flowpipelaw46.CertificateEqual'. -/
def certificateEqualUptoCard : Claim7 := { stood := { row := certificateEqualUptoRow, standIns := [], harness := (true, "7d669eb2ea8686705adf2aac3110558dc9108f86db913a9734b40288e72871c2"), looks := true }, kinds := [], alts := [], laidByText := true, laidKinds := [.data, .data, .data, .data, .sentinel, .sentinel, .pinned], laidTests := true, laidLooks := .later }
def CertificateEqualUptoCardSaid : Prop := Claim7.holds Tryz.pinned (.plain (OpenSpec.upto certificateEqualSpec)) certificateEqualUptoCard

/-- THE SECOND FORM's CARD OF 'flowpipelaw46.CertificateSpoilt'. -/
def certificateSpoiltUptoCard : Claim7 := { stood := { row := certificateSpoiltUptoRow, standIns := [], harness := (true, "7d669eb2ea8686705adf2aac3110558dc9108f86db913a9734b40288e72871c2"), looks := true }, kinds := [], alts := [], laidByText := true, laidKinds := [.data, .data, .data, .data, .sentinel, .sentinel, .pinned], laidTests := true, laidLooks := .later }
def CertificateSpoiltUptoCardSaid : Prop := Claim7.holds Tryz.pinned (.plain (OpenSpec.upto certificateSpoiltSpec)) certificateSpoiltUptoCard

/-- THE SECOND FORM's CARD OF 'flowpipelaw46.CertificateLines'. -/
def certificateLinesUptoCard : Claim7 := { stood := { row := certificateLinesUptoRow, standIns := [], harness := (true, "7d669eb2ea8686705adf2aac3110558dc9108f86db913a9734b40288e72871c2"), looks := true }, kinds := [], alts := [], laidByText := true, laidKinds := [.data, .data, .data, .data, .sentinel, .sentinel, .pinned], laidTests := true, laidLooks := .later }
def CertificateLinesUptoCardSaid : Prop := Claim7.holds Tryz.pinned (.plain (OpenSpec.upto certificateLinesSpec)) certificateLinesUptoCard
end Rows
end Go.Proofs.YtekajoifgdpmlaaGreatDoor
