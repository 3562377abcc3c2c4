/-
  DERIVED. GIVEN WITH THE SEED: THE CARDS: each row of YtoojdmgbffnmiaaDoorRows.lean that lists a variable, with what it lists TIED to the program's text (the seventh form; the later family's looks); each row that meets fmt, with fmt's text TOLD by the authors' own Lean function (tested against real Go, not proved from fmt's source: count such statements apart). THE CARD IS WHAT COUNTS. Prove the row's statement (the work); the ties are given (YtoojdmgbffnmiaaDoorTie.lean); close each card by the builder's one call (the guide's Derived/Test/ToyasCard.lean, 'card_holds'). Laid BY PROGRAM, IN A SANDBOX (cutbox-door.mjs). By AI agents, Wed Nov 11 2026. No macro, syntax, notation, axiom, sorry.
-/
import Derived.Test.YtoojdmgbffnmiaaDoorRows
import GoSem.ClaimSeven
namespace Go.Proofs.YtoojdmgbffnmiaaDoor
namespace Rows

/-- THE TIED CARD OF 'provenancekeep2.SignatureSelf'. -/
def signatureSelfCard : Claim7 := { stood := { row := signatureSelfRow, standIns := [], harness := (true, "3a4513fa8b40d728ff204c40a82cca300c808e329914cf8bf047e63b3ad431a1"), looks := false }, kinds := [], alts := [], laidByText := true, laidKinds := [.data], laidTests := true, laidLooks := .later }
def SignatureSelfCardSaid : Prop := Claim7.holds Tryd.pinned (.plain (OpenSpec.ofChange signatureSelfSpec)) signatureSelfCard

/-- THE TIED CARD OF 'provenancekeep2.SignatureThrough'. -/
def signatureThroughCard : Claim7 := { stood := { row := signatureThroughRow, standIns := [], harness := (true, "3a4513fa8b40d728ff204c40a82cca300c808e329914cf8bf047e63b3ad431a1"), looks := false }, kinds := [], alts := [], laidByText := true, laidKinds := [.data], laidTests := true, laidLooks := .later }
def SignatureThroughCardSaid : Prop := Claim7.holds Tryd.pinned (.plain (OpenSpec.ofChange signatureThroughSpec)) signatureThroughCard

/-- THE TIED CARD OF 'provenancekeep2.SignatureSubst'. -/
def signatureSubstCard : Claim7 := { stood := { row := signatureSubstRow, standIns := [], harness := (true, "3a4513fa8b40d728ff204c40a82cca300c808e329914cf8bf047e63b3ad431a1"), looks := false }, kinds := [], alts := [], laidByText := true, laidKinds := [.data], laidTests := true, laidLooks := .later }
def SignatureSubstCardSaid : Prop := Claim7.holds Tryd.pinned (.plain (OpenSpec.ofChange signatureSubstSpec)) signatureSubstCard

/-- THE TIED CARD OF 'provenancekeep2.SignatureTransitive'. -/
def signatureTransitiveCard : Claim7 := { stood := { row := signatureTransitiveRow, standIns := [], harness := (true, "3a4513fa8b40d728ff204c40a82cca300c808e329914cf8bf047e63b3ad431a1"), looks := false }, kinds := [], alts := [], laidByText := true, laidKinds := [.data], laidTests := true, laidLooks := .later }
def SignatureTransitiveCardSaid : Prop := Claim7.holds Tryd.pinned (.plain (OpenSpec.ofChange signatureTransitiveSpec)) signatureTransitiveCard

/-- THE TIED CARD OF 'provenancekeep2.SignatureInstance'. -/
def signatureInstanceCard : Claim7 := { stood := { row := signatureInstanceRow, standIns := [], harness := (true, "3a4513fa8b40d728ff204c40a82cca300c808e329914cf8bf047e63b3ad431a1"), looks := false }, kinds := [], alts := [], laidByText := true, laidKinds := [.data], laidTests := true, laidLooks := .later }
def SignatureInstanceCardSaid : Prop := Claim7.holds Tryd.pinned (.plain (OpenSpec.ofChange signatureInstanceSpec)) signatureInstanceCard

/-- THE TIED CARD OF 'provenancekeep2.SignatureFewer'. -/
def signatureFewerCard : Claim7 := { stood := { row := signatureFewerRow, standIns := [], harness := (true, "3a4513fa8b40d728ff204c40a82cca300c808e329914cf8bf047e63b3ad431a1"), looks := false }, kinds := [], alts := [], laidByText := true, laidKinds := [.data], laidTests := true, laidLooks := .later }
def SignatureFewerCardSaid : Prop := Claim7.holds Tryd.pinned (.plain (OpenSpec.ofChange signatureFewerSpec)) signatureFewerCard

/-- THE TIED CARD OF 'provenancekeep2.SignatureMore'. -/
def signatureMoreCard : Claim7 := { stood := { row := signatureMoreRow, standIns := [], harness := (true, "3a4513fa8b40d728ff204c40a82cca300c808e329914cf8bf047e63b3ad431a1"), looks := false }, kinds := [], alts := [], laidByText := true, laidKinds := [.data], laidTests := true, laidLooks := .later }
def SignatureMoreCardSaid : Prop := Claim7.holds Tryd.pinned (.plain (OpenSpec.ofChange signatureMoreSpec)) signatureMoreCard

/-- THE TIED CARD OF 'provenancekeep2.FunctorTwice'. -/
def functorTwiceCard : Claim7 := { stood := { row := functorTwiceRow, standIns := [], harness := (true, "3a4513fa8b40d728ff204c40a82cca300c808e329914cf8bf047e63b3ad431a1"), looks := false }, kinds := [], alts := [], laidByText := true, laidKinds := [.data, .data, .data, .data], laidTests := true, laidLooks := .later }
def FunctorTwiceCardSaid : Prop := Claim7.holds Tryd.pinned (.plain (OpenSpec.ofChange functorTwiceSpec)) functorTwiceCard

/-- THE TIED CARD OF 'provenancekeep2.FunctorEqual'. -/
def functorEqualCard : Claim7 := { stood := { row := functorEqualRow, standIns := [], harness := (true, "3a4513fa8b40d728ff204c40a82cca300c808e329914cf8bf047e63b3ad431a1"), looks := false }, kinds := [], alts := [], laidByText := true, laidKinds := [.data, .data, .data, .data], laidTests := true, laidLooks := .later }
def FunctorEqualCardSaid : Prop := Claim7.holds Tryd.pinned (.plain (OpenSpec.ofChange functorEqualSpec)) functorEqualCard

/-- THE TIED CARD OF 'provenancekeep2.FunctorNeeds'. -/
def functorNeedsCard : Claim7 := { stood := { row := functorNeedsRow, standIns := [], harness := (true, "3a4513fa8b40d728ff204c40a82cca300c808e329914cf8bf047e63b3ad431a1"), looks := false }, kinds := [], alts := [], laidByText := true, laidKinds := [.data, .data, .data, .data], laidTests := true, laidLooks := .later }
def FunctorNeedsCardSaid : Prop := Claim7.holds Tryd.pinned (.plain (OpenSpec.ofChange functorNeedsSpec)) functorNeedsCard

/-- THE SECOND FORM's CARD OF 'provenancekeep2.SignatureSelf'. -/
def signatureSelfUptoCard : Claim7 := { stood := { row := signatureSelfUptoRow, standIns := [], harness := (true, "3a4513fa8b40d728ff204c40a82cca300c808e329914cf8bf047e63b3ad431a1"), looks := false }, kinds := [], alts := [], laidByText := true, laidKinds := [.data], laidTests := true, laidLooks := .later }
def SignatureSelfUptoCardSaid : Prop := Claim7.holds Tryd.pinned (.plain (OpenSpec.upto signatureSelfSpec)) signatureSelfUptoCard

/-- THE SECOND FORM's CARD OF 'provenancekeep2.SignatureThrough'. -/
def signatureThroughUptoCard : Claim7 := { stood := { row := signatureThroughUptoRow, standIns := [], harness := (true, "3a4513fa8b40d728ff204c40a82cca300c808e329914cf8bf047e63b3ad431a1"), looks := false }, kinds := [], alts := [], laidByText := true, laidKinds := [.data], laidTests := true, laidLooks := .later }
def SignatureThroughUptoCardSaid : Prop := Claim7.holds Tryd.pinned (.plain (OpenSpec.upto signatureThroughSpec)) signatureThroughUptoCard

/-- THE SECOND FORM's CARD OF 'provenancekeep2.SignatureSubst'. -/
def signatureSubstUptoCard : Claim7 := { stood := { row := signatureSubstUptoRow, standIns := [], harness := (true, "3a4513fa8b40d728ff204c40a82cca300c808e329914cf8bf047e63b3ad431a1"), looks := false }, kinds := [], alts := [], laidByText := true, laidKinds := [.data], laidTests := true, laidLooks := .later }
def SignatureSubstUptoCardSaid : Prop := Claim7.holds Tryd.pinned (.plain (OpenSpec.upto signatureSubstSpec)) signatureSubstUptoCard

/-- THE SECOND FORM's CARD OF 'provenancekeep2.SignatureTransitive'. -/
def signatureTransitiveUptoCard : Claim7 := { stood := { row := signatureTransitiveUptoRow, standIns := [], harness := (true, "3a4513fa8b40d728ff204c40a82cca300c808e329914cf8bf047e63b3ad431a1"), looks := false }, kinds := [], alts := [], laidByText := true, laidKinds := [.data], laidTests := true, laidLooks := .later }
def SignatureTransitiveUptoCardSaid : Prop := Claim7.holds Tryd.pinned (.plain (OpenSpec.upto signatureTransitiveSpec)) signatureTransitiveUptoCard

/-- THE SECOND FORM's CARD OF 'provenancekeep2.SignatureInstance'. -/
def signatureInstanceUptoCard : Claim7 := { stood := { row := signatureInstanceUptoRow, standIns := [], harness := (true, "3a4513fa8b40d728ff204c40a82cca300c808e329914cf8bf047e63b3ad431a1"), looks := false }, kinds := [], alts := [], laidByText := true, laidKinds := [.data], laidTests := true, laidLooks := .later }
def SignatureInstanceUptoCardSaid : Prop := Claim7.holds Tryd.pinned (.plain (OpenSpec.upto signatureInstanceSpec)) signatureInstanceUptoCard

/-- THE SECOND FORM's CARD OF 'provenancekeep2.SignatureFewer'. -/
def signatureFewerUptoCard : Claim7 := { stood := { row := signatureFewerUptoRow, standIns := [], harness := (true, "3a4513fa8b40d728ff204c40a82cca300c808e329914cf8bf047e63b3ad431a1"), looks := false }, kinds := [], alts := [], laidByText := true, laidKinds := [.data], laidTests := true, laidLooks := .later }
def SignatureFewerUptoCardSaid : Prop := Claim7.holds Tryd.pinned (.plain (OpenSpec.upto signatureFewerSpec)) signatureFewerUptoCard

/-- THE SECOND FORM's CARD OF 'provenancekeep2.SignatureMore'. -/
def signatureMoreUptoCard : Claim7 := { stood := { row := signatureMoreUptoRow, standIns := [], harness := (true, "3a4513fa8b40d728ff204c40a82cca300c808e329914cf8bf047e63b3ad431a1"), looks := false }, kinds := [], alts := [], laidByText := true, laidKinds := [.data], laidTests := true, laidLooks := .later }
def SignatureMoreUptoCardSaid : Prop := Claim7.holds Tryd.pinned (.plain (OpenSpec.upto signatureMoreSpec)) signatureMoreUptoCard

/-- THE SECOND FORM's CARD OF 'provenancekeep2.FunctorTwice'. -/
def functorTwiceUptoCard : Claim7 := { stood := { row := functorTwiceUptoRow, standIns := [], harness := (true, "3a4513fa8b40d728ff204c40a82cca300c808e329914cf8bf047e63b3ad431a1"), looks := false }, kinds := [], alts := [], laidByText := true, laidKinds := [.data, .data, .data, .data], laidTests := true, laidLooks := .later }
def FunctorTwiceUptoCardSaid : Prop := Claim7.holds Tryd.pinned (.plain (OpenSpec.upto functorTwiceSpec)) functorTwiceUptoCard

/-- THE SECOND FORM's CARD OF 'provenancekeep2.FunctorEqual'. -/
def functorEqualUptoCard : Claim7 := { stood := { row := functorEqualUptoRow, standIns := [], harness := (true, "3a4513fa8b40d728ff204c40a82cca300c808e329914cf8bf047e63b3ad431a1"), looks := false }, kinds := [], alts := [], laidByText := true, laidKinds := [.data, .data, .data, .data], laidTests := true, laidLooks := .later }
def FunctorEqualUptoCardSaid : Prop := Claim7.holds Tryd.pinned (.plain (OpenSpec.upto functorEqualSpec)) functorEqualUptoCard

/-- THE SECOND FORM's CARD OF 'provenancekeep2.FunctorNeeds'. -/
def functorNeedsUptoCard : Claim7 := { stood := { row := functorNeedsUptoRow, standIns := [], harness := (true, "3a4513fa8b40d728ff204c40a82cca300c808e329914cf8bf047e63b3ad431a1"), looks := false }, kinds := [], alts := [], laidByText := true, laidKinds := [.data, .data, .data, .data], laidTests := true, laidLooks := .later }
def FunctorNeedsUptoCardSaid : Prop := Claim7.holds Tryd.pinned (.plain (OpenSpec.upto functorNeedsSpec)) functorNeedsUptoCard
end Rows
end Go.Proofs.YtoojdmgbffnmiaaDoor
