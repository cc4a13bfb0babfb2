/-
  DERIVED. GIVEN WITH THE SEED: THE CARDS: each row of YtmamkgbldaehgaaGreatDoorRows.lean that lists a variable, with what it lists TIED to the program's text (the seventh form; the later family's looks); each row that meets fmt, with fmt's text TOLD by the authors' own Lean function (tested against real Go, not proved from fmt's source: count such statements apart). THE CARD IS WHAT COUNTS. Prove the row's statement (the work); the ties are given (YtmamkgbldaehgaaGreatDoorTie.lean); close each card by the builder's one call (the guide's Derived/Test/ToyasCard.lean, 'card_holds'). Laid BY PROGRAM, IN A SANDBOX (cutbox-door.mjs). By AI agents, Wed Nov 11 2026. No macro, syntax, notation, axiom, sorry.
-/
import Derived.Test.YtmamkgbldaehgaaGreatDoorRows
import GoSem.ClaimSeven
namespace Go.Proofs.YtmamkgbldaehgaaGreatDoor
namespace Rows

/-- THE TIED CARD OF 'cylinderlaw54.CheckpolyProjects'. -/
def checkpolyProjectsCard : Claim7 := { stood := { row := checkpolyProjectsRow, standIns := [], harness := (true, "74c3a631bdc12058880dab9f7de24d91aabe9828823d5dee5dd9f831c6e336a6"), looks := true }, kinds := [], alts := [], laidByText := true, laidKinds := [.data, .data, .data], laidTests := true, laidLooks := .later }
def CheckpolyProjectsCardSaid : Prop := Claim7.holds Tryz.pinned (.plain (OpenSpec.ofChange checkpolyProjectsSpec)) checkpolyProjectsCard

/-- THE TIED CARD OF 'cylinderlaw56.CertificateLong'. -/
def certificateLongCard : Claim7 := { stood := { row := certificateLongRow, standIns := [], harness := (true, "74c3a631bdc12058880dab9f7de24d91aabe9828823d5dee5dd9f831c6e336a6"), looks := true }, kinds := [], alts := [], laidByText := true, laidKinds := [.data, .data, .data, .data, .sentinel, .sentinel, .pinned], laidTests := true, laidLooks := .later }
def CertificateLongCardSaid : Prop := Claim7.holds Tryz.pinned (.plain (OpenSpec.ofChange certificateLongSpec)) certificateLongCard

/-- THE TIED CARD OF 'cylinderlaw56.CertificateCanonical'. -/
def certificateCanonicalCard : Claim7 := { stood := { row := certificateCanonicalRow, standIns := [], harness := (true, "74c3a631bdc12058880dab9f7de24d91aabe9828823d5dee5dd9f831c6e336a6"), looks := true }, kinds := [], alts := [], laidByText := true, laidKinds := [.data, .data, .data, .data, .sentinel, .sentinel, .pinned], laidTests := true, laidLooks := .later }
def CertificateCanonicalCardSaid : Prop := Claim7.holds Tryz.pinned (.plain (OpenSpec.ofChange certificateCanonicalSpec)) certificateCanonicalCard

/-- THE TIED CARD OF 'cylinderlaw56.CertificateParses'. -/
def certificateParsesCard : Claim7 := { stood := { row := certificateParsesRow, standIns := [], harness := (true, "74c3a631bdc12058880dab9f7de24d91aabe9828823d5dee5dd9f831c6e336a6"), looks := true }, kinds := [], alts := [], laidByText := true, laidKinds := [.data, .data, .data, .data, .sentinel, .sentinel, .pinned], laidTests := true, laidLooks := .later }
def CertificateParsesCardSaid : Prop := Claim7.holds Tryz.pinned (.plain (OpenSpec.ofChange certificateParsesSpec)) certificateParsesCard

/-- THE TIED CARD OF 'cylinderlaw56.CertificateBack'. -/
def certificateBackCard : Claim7 := { stood := { row := certificateBackRow, standIns := [], harness := (true, "74c3a631bdc12058880dab9f7de24d91aabe9828823d5dee5dd9f831c6e336a6"), looks := true }, kinds := [], alts := [], laidByText := true, laidKinds := [.data, .data, .data, .data, .sentinel, .sentinel, .pinned], laidTests := true, laidLooks := .later }
def CertificateBackCardSaid : Prop := Claim7.holds Tryz.pinned (.plain (OpenSpec.ofChange certificateBackSpec)) certificateBackCard

/-- THE TIED CARD OF 'cylinderlaw56.CertificateSpoilt'. -/
def certificateSpoiltCard : Claim7 := { stood := { row := certificateSpoiltRow, standIns := [], harness := (true, "74c3a631bdc12058880dab9f7de24d91aabe9828823d5dee5dd9f831c6e336a6"), looks := true }, kinds := [], alts := [], laidByText := true, laidKinds := [.data, .data, .data, .data, .sentinel, .sentinel, .pinned], laidTests := true, laidLooks := .later }
def CertificateSpoiltCardSaid : Prop := Claim7.holds Tryz.pinned (.plain (OpenSpec.ofChange certificateSpoiltSpec)) certificateSpoiltCard

/-- THE SECOND FORM's CARD OF 'cylinderlaw54.CheckpolyProjects'. -/
def checkpolyProjectsUptoCard : Claim7 := { stood := { row := checkpolyProjectsUptoRow, standIns := [], harness := (true, "74c3a631bdc12058880dab9f7de24d91aabe9828823d5dee5dd9f831c6e336a6"), looks := true }, kinds := [], alts := [], laidByText := true, laidKinds := [.data, .data, .data], laidTests := true, laidLooks := .later }
def CheckpolyProjectsUptoCardSaid : Prop := Claim7.holds Tryz.pinned (.plain (OpenSpec.upto checkpolyProjectsSpec)) checkpolyProjectsUptoCard

/-- THE SECOND FORM's CARD OF 'cylinderlaw56.CertificateLong'. -/
def certificateLongUptoCard : Claim7 := { stood := { row := certificateLongUptoRow, standIns := [], harness := (true, "74c3a631bdc12058880dab9f7de24d91aabe9828823d5dee5dd9f831c6e336a6"), looks := true }, kinds := [], alts := [], laidByText := true, laidKinds := [.data, .data, .data, .data, .sentinel, .sentinel, .pinned], laidTests := true, laidLooks := .later }
def CertificateLongUptoCardSaid : Prop := Claim7.holds Tryz.pinned (.plain (OpenSpec.upto certificateLongSpec)) certificateLongUptoCard

/-- THE SECOND FORM's CARD OF 'cylinderlaw56.CertificateCanonical'. -/
def certificateCanonicalUptoCard : Claim7 := { stood := { row := certificateCanonicalUptoRow, standIns := [], harness := (true, "74c3a631bdc12058880dab9f7de24d91aabe9828823d5dee5dd9f831c6e336a6"), looks := true }, kinds := [], alts := [], laidByText := true, laidKinds := [.data, .data, .data, .data, .sentinel, .sentinel, .pinned], laidTests := true, laidLooks := .later }
def CertificateCanonicalUptoCardSaid : Prop := Claim7.holds Tryz.pinned (.plain (OpenSpec.upto certificateCanonicalSpec)) certificateCanonicalUptoCard

/-- THE SECOND FORM's CARD OF 'cylinderlaw56.CertificateParses'. -/
def certificateParsesUptoCard : Claim7 := { stood := { row := certificateParsesUptoRow, standIns := [], harness := (true, "74c3a631bdc12058880dab9f7de24d91aabe9828823d5dee5dd9f831c6e336a6"), looks := true }, kinds := [], alts := [], laidByText := true, laidKinds := [.data, .data, .data, .data, .sentinel, .sentinel, .pinned], laidTests := true, laidLooks := .later }
def CertificateParsesUptoCardSaid : Prop := Claim7.holds Tryz.pinned (.plain (OpenSpec.upto certificateParsesSpec)) certificateParsesUptoCard

/-- THE SECOND FORM's CARD OF 'cylinderlaw56.CertificateBack'. -/
def certificateBackUptoCard : Claim7 := { stood := { row := certificateBackUptoRow, standIns := [], harness := (true, "74c3a631bdc12058880dab9f7de24d91aabe9828823d5dee5dd9f831c6e336a6"), looks := true }, kinds := [], alts := [], laidByText := true, laidKinds := [.data, .data, .data, .data, .sentinel, .sentinel, .pinned], laidTests := true, laidLooks := .later }
def CertificateBackUptoCardSaid : Prop := Claim7.holds Tryz.pinned (.plain (OpenSpec.upto certificateBackSpec)) certificateBackUptoCard

/-- THE SECOND FORM's CARD OF 'cylinderlaw56.CertificateSpoilt'. -/
def certificateSpoiltUptoCard : Claim7 := { stood := { row := certificateSpoiltUptoRow, standIns := [], harness := (true, "74c3a631bdc12058880dab9f7de24d91aabe9828823d5dee5dd9f831c6e336a6"), looks := true }, kinds := [], alts := [], laidByText := true, laidKinds := [.data, .data, .data, .data, .sentinel, .sentinel, .pinned], laidTests := true, laidLooks := .later }
def CertificateSpoiltUptoCardSaid : Prop := Claim7.holds Tryz.pinned (.plain (OpenSpec.upto certificateSpoiltSpec)) certificateSpoiltUptoCard
end Rows
end Go.Proofs.YtmamkgbldaehgaaGreatDoor
