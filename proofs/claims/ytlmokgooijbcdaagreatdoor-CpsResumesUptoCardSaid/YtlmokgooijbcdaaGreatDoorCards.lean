/-
  DERIVED. GIVEN WITH THE SEED: THE CARDS: each row of YtlmokgooijbcdaaGreatDoorRows.lean that lists a variable, with what it lists TIED to the program's text (the seventh form; the later family's looks); each row that meets fmt, with fmt's text TOLD by the authors' own Lean function (tested against real Go, not proved from fmt's source: count such statements apart). THE CARD IS WHAT COUNTS. Prove the row's statement (the work); the ties are given (YtlmokgooijbcdaaGreatDoorTie.lean); close each card by the builder's one call (the guide's Derived/Test/ToyasCard.lean, 'card_holds'). Laid BY PROGRAM, IN A SANDBOX (cutbox-door.mjs). By AI agents, Wed Nov 11 2026. No macro, syntax, notation, axiom, sorry.
-/
import Derived.Test.YtlmokgooijbcdaaGreatDoorRows
import GoSem.ClaimSeven
namespace Go.Proofs.YtlmokgooijbcdaaGreatDoor
namespace Rows

/-- THE TIED CARD OF 'provenancekeep2.LowerNames'. -/
def lowerNamesCard : Claim7 := { stood := { row := lowerNamesRow, standIns := [], harness := (true, "1b35230aac66fb880fd187e2c387b3242f87046aab29e31fd70902e448159eed"), looks := true }, kinds := [], alts := [], laidByText := true, laidKinds := [.data, .data], laidTests := true, laidLooks := .later }
def LowerNamesCardSaid : Prop := Claim7.holds Tryz.pinned (.plain (OpenSpec.ofChange lowerNamesSpec)) lowerNamesCard

/-- THE TIED CARD OF 'provenancekeep2.CpsResumes'. -/
def cpsResumesCard : Claim7 := { stood := { row := cpsResumesRow, standIns := [], harness := (true, "1b35230aac66fb880fd187e2c387b3242f87046aab29e31fd70902e448159eed"), looks := true }, kinds := [], alts := [], laidByText := true, laidKinds := [.data, .data], laidTests := true, laidLooks := .later }
def CpsResumesCardSaid : Prop := Claim7.holds Tryz.pinned (.plain (OpenSpec.ofChange cpsResumesSpec)) cpsResumesCard

/-- THE TIED CARD OF 'provenancekeep2.CpsPlain'. -/
def cpsPlainCard : Claim7 := { stood := { row := cpsPlainRow, standIns := [], harness := (true, "1b35230aac66fb880fd187e2c387b3242f87046aab29e31fd70902e448159eed"), looks := true }, kinds := [], alts := [], laidByText := true, laidKinds := [.data, .data], laidTests := true, laidLooks := .later }
def CpsPlainCardSaid : Prop := Claim7.holds Tryz.pinned (.plain (OpenSpec.ofChange cpsPlainSpec)) cpsPlainCard

/-- THE TIED CARD OF 'provenancekeep2.CpsTwice'. -/
def cpsTwiceCard : Claim7 := { stood := { row := cpsTwiceRow, standIns := [], harness := (true, "1b35230aac66fb880fd187e2c387b3242f87046aab29e31fd70902e448159eed"), looks := true }, kinds := [], alts := [], laidByText := true, laidKinds := [.data, .data], laidTests := true, laidLooks := .later }
def CpsTwiceCardSaid : Prop := Claim7.holds Tryz.pinned (.plain (OpenSpec.ofChange cpsTwiceSpec)) cpsTwiceCard

/-- THE SECOND FORM's CARD OF 'provenancekeep2.LowerNames'. -/
def lowerNamesUptoCard : Claim7 := { stood := { row := lowerNamesUptoRow, standIns := [], harness := (true, "1b35230aac66fb880fd187e2c387b3242f87046aab29e31fd70902e448159eed"), looks := true }, kinds := [], alts := [], laidByText := true, laidKinds := [.data, .data], laidTests := true, laidLooks := .later }
def LowerNamesUptoCardSaid : Prop := Claim7.holds Tryz.pinned (.plain (OpenSpec.upto lowerNamesSpec)) lowerNamesUptoCard

/-- THE SECOND FORM's CARD OF 'provenancekeep2.CpsResumes'. -/
def cpsResumesUptoCard : Claim7 := { stood := { row := cpsResumesUptoRow, standIns := [], harness := (true, "1b35230aac66fb880fd187e2c387b3242f87046aab29e31fd70902e448159eed"), looks := true }, kinds := [], alts := [], laidByText := true, laidKinds := [.data, .data], laidTests := true, laidLooks := .later }
def CpsResumesUptoCardSaid : Prop := Claim7.holds Tryz.pinned (.plain (OpenSpec.upto cpsResumesSpec)) cpsResumesUptoCard

/-- THE SECOND FORM's CARD OF 'provenancekeep2.CpsPlain'. -/
def cpsPlainUptoCard : Claim7 := { stood := { row := cpsPlainUptoRow, standIns := [], harness := (true, "1b35230aac66fb880fd187e2c387b3242f87046aab29e31fd70902e448159eed"), looks := true }, kinds := [], alts := [], laidByText := true, laidKinds := [.data, .data], laidTests := true, laidLooks := .later }
def CpsPlainUptoCardSaid : Prop := Claim7.holds Tryz.pinned (.plain (OpenSpec.upto cpsPlainSpec)) cpsPlainUptoCard

/-- THE SECOND FORM's CARD OF 'provenancekeep2.CpsTwice'. -/
def cpsTwiceUptoCard : Claim7 := { stood := { row := cpsTwiceUptoRow, standIns := [], harness := (true, "1b35230aac66fb880fd187e2c387b3242f87046aab29e31fd70902e448159eed"), looks := true }, kinds := [], alts := [], laidByText := true, laidKinds := [.data, .data], laidTests := true, laidLooks := .later }
def CpsTwiceUptoCardSaid : Prop := Claim7.holds Tryz.pinned (.plain (OpenSpec.upto cpsTwiceSpec)) cpsTwiceUptoCard
end Rows
end Go.Proofs.YtlmokgooijbcdaaGreatDoor
