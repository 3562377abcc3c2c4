/-
  DERIVED. GIVEN WITH THE SEED: THE CARDS: each row of YtmdkenkhaicbeaaGreatDoorRows.lean that lists a variable, with what it lists TIED to the program's text (the seventh form; the later family's looks); each row that meets fmt, with fmt's text TOLD by the authors' own Lean function (tested against real Go, not proved from fmt's source: count such statements apart). THE CARD IS WHAT COUNTS. Prove the row's statement (the work); the ties are given (YtmdkenkhaicbeaaGreatDoorTie.lean); close each card by the builder's one call (the guide's Derived/Test/ToyasCard.lean, 'card_holds'). Laid BY PROGRAM, IN A SANDBOX (cutbox-door.mjs). By AI agents, Wed Nov 11 2026. No macro, syntax, notation, axiom, sorry.
-/
import Derived.Test.YtmdkenkhaicbeaaGreatDoorRows
import GoSem.ClaimSeven
namespace Go.Proofs.YtmdkenkhaicbeaaGreatDoor
namespace Rows

/-- THE TIED CARD OF 'provenancekeep2.EvalResumed'. -/
def evalResumedCard : Claim7 := { stood := { row := evalResumedRow, standIns := [], harness := (true, "65778b20ed60d7c41fe282d7d7619b745864d413902a186bde34ada96ed8aea8"), looks := true }, kinds := [], alts := [], laidByText := true, laidKinds := [.data], laidTests := true, laidLooks := .later }
def EvalResumedCardSaid : Prop := Claim7.holds Tryz.pinned (.plain (OpenSpec.ofChange evalResumedSpec)) evalResumedCard

/-- THE TIED CARD OF 'provenancekeep2.LiftClosed'. -/
def liftClosedCard : Claim7 := { stood := { row := liftClosedRow, standIns := [], harness := (true, "65778b20ed60d7c41fe282d7d7619b745864d413902a186bde34ada96ed8aea8"), looks := true }, kinds := [], alts := [], laidByText := true, laidKinds := [.data], laidTests := true, laidLooks := .later }
def LiftClosedCardSaid : Prop := Claim7.holds Tryz.pinned (.plain (OpenSpec.ofChange liftClosedSpec)) liftClosedCard

/-- THE TIED CARD OF 'provenancekeep2.ContifyTwice'. -/
def contifyTwiceCard : Claim7 := { stood := { row := contifyTwiceRow, standIns := [], harness := (true, "65778b20ed60d7c41fe282d7d7619b745864d413902a186bde34ada96ed8aea8"), looks := true }, kinds := [], alts := [], laidByText := true, laidKinds := [.data], laidTests := true, laidLooks := .later }
def ContifyTwiceCardSaid : Prop := Claim7.holds Tryz.pinned (.plain (OpenSpec.ofChange contifyTwiceSpec)) contifyTwiceCard

/-- THE TIED CARD OF 'provenancekeep2.LiftPlain'. -/
def liftPlainCard : Claim7 := { stood := { row := liftPlainRow, standIns := [], harness := (true, "65778b20ed60d7c41fe282d7d7619b745864d413902a186bde34ada96ed8aea8"), looks := true }, kinds := [], alts := [], laidByText := true, laidKinds := [.data], laidTests := true, laidLooks := .later }
def LiftPlainCardSaid : Prop := Claim7.holds Tryz.pinned (.plain (OpenSpec.ofChange liftPlainSpec)) liftPlainCard

/-- THE TIED CARD OF 'provenancekeep2.CpsResumes'. -/
def cpsResumesCard : Claim7 := { stood := { row := cpsResumesRow, standIns := [], harness := (true, "65778b20ed60d7c41fe282d7d7619b745864d413902a186bde34ada96ed8aea8"), looks := true }, kinds := [], alts := [], laidByText := true, laidKinds := [.data, .data], laidTests := true, laidLooks := .later }
def CpsResumesCardSaid : Prop := Claim7.holds Tryz.pinned (.plain (OpenSpec.ofChange cpsResumesSpec)) cpsResumesCard

/-- THE TIED CARD OF 'provenancekeep2.CpsPlain'. -/
def cpsPlainCard : Claim7 := { stood := { row := cpsPlainRow, standIns := [], harness := (true, "65778b20ed60d7c41fe282d7d7619b745864d413902a186bde34ada96ed8aea8"), looks := true }, kinds := [], alts := [], laidByText := true, laidKinds := [.data, .data], laidTests := true, laidLooks := .later }
def CpsPlainCardSaid : Prop := Claim7.holds Tryz.pinned (.plain (OpenSpec.ofChange cpsPlainSpec)) cpsPlainCard

/-- THE TIED CARD OF 'provenancekeep2.CpsTwice'. -/
def cpsTwiceCard : Claim7 := { stood := { row := cpsTwiceRow, standIns := [], harness := (true, "65778b20ed60d7c41fe282d7d7619b745864d413902a186bde34ada96ed8aea8"), looks := true }, kinds := [], alts := [], laidByText := true, laidKinds := [.data, .data], laidTests := true, laidLooks := .later }
def CpsTwiceCardSaid : Prop := Claim7.holds Tryz.pinned (.plain (OpenSpec.ofChange cpsTwiceSpec)) cpsTwiceCard

/-- THE SECOND FORM's CARD OF 'provenancekeep2.EvalResumed'. -/
def evalResumedUptoCard : Claim7 := { stood := { row := evalResumedUptoRow, standIns := [], harness := (true, "65778b20ed60d7c41fe282d7d7619b745864d413902a186bde34ada96ed8aea8"), looks := true }, kinds := [], alts := [], laidByText := true, laidKinds := [.data], laidTests := true, laidLooks := .later }
def EvalResumedUptoCardSaid : Prop := Claim7.holds Tryz.pinned (.plain (OpenSpec.upto evalResumedSpec)) evalResumedUptoCard

/-- THE SECOND FORM's CARD OF 'provenancekeep2.LiftClosed'. -/
def liftClosedUptoCard : Claim7 := { stood := { row := liftClosedUptoRow, standIns := [], harness := (true, "65778b20ed60d7c41fe282d7d7619b745864d413902a186bde34ada96ed8aea8"), looks := true }, kinds := [], alts := [], laidByText := true, laidKinds := [.data], laidTests := true, laidLooks := .later }
def LiftClosedUptoCardSaid : Prop := Claim7.holds Tryz.pinned (.plain (OpenSpec.upto liftClosedSpec)) liftClosedUptoCard

/-- THE SECOND FORM's CARD OF 'provenancekeep2.ContifyTwice'. -/
def contifyTwiceUptoCard : Claim7 := { stood := { row := contifyTwiceUptoRow, standIns := [], harness := (true, "65778b20ed60d7c41fe282d7d7619b745864d413902a186bde34ada96ed8aea8"), looks := true }, kinds := [], alts := [], laidByText := true, laidKinds := [.data], laidTests := true, laidLooks := .later }
def ContifyTwiceUptoCardSaid : Prop := Claim7.holds Tryz.pinned (.plain (OpenSpec.upto contifyTwiceSpec)) contifyTwiceUptoCard

/-- THE SECOND FORM's CARD OF 'provenancekeep2.LiftPlain'. -/
def liftPlainUptoCard : Claim7 := { stood := { row := liftPlainUptoRow, standIns := [], harness := (true, "65778b20ed60d7c41fe282d7d7619b745864d413902a186bde34ada96ed8aea8"), looks := true }, kinds := [], alts := [], laidByText := true, laidKinds := [.data], laidTests := true, laidLooks := .later }
def LiftPlainUptoCardSaid : Prop := Claim7.holds Tryz.pinned (.plain (OpenSpec.upto liftPlainSpec)) liftPlainUptoCard

/-- THE SECOND FORM's CARD OF 'provenancekeep2.CpsResumes'. -/
def cpsResumesUptoCard : Claim7 := { stood := { row := cpsResumesUptoRow, standIns := [], harness := (true, "65778b20ed60d7c41fe282d7d7619b745864d413902a186bde34ada96ed8aea8"), looks := true }, kinds := [], alts := [], laidByText := true, laidKinds := [.data, .data], laidTests := true, laidLooks := .later }
def CpsResumesUptoCardSaid : Prop := Claim7.holds Tryz.pinned (.plain (OpenSpec.upto cpsResumesSpec)) cpsResumesUptoCard

/-- THE SECOND FORM's CARD OF 'provenancekeep2.CpsPlain'. -/
def cpsPlainUptoCard : Claim7 := { stood := { row := cpsPlainUptoRow, standIns := [], harness := (true, "65778b20ed60d7c41fe282d7d7619b745864d413902a186bde34ada96ed8aea8"), looks := true }, kinds := [], alts := [], laidByText := true, laidKinds := [.data, .data], laidTests := true, laidLooks := .later }
def CpsPlainUptoCardSaid : Prop := Claim7.holds Tryz.pinned (.plain (OpenSpec.upto cpsPlainSpec)) cpsPlainUptoCard

/-- THE SECOND FORM's CARD OF 'provenancekeep2.CpsTwice'. -/
def cpsTwiceUptoCard : Claim7 := { stood := { row := cpsTwiceUptoRow, standIns := [], harness := (true, "65778b20ed60d7c41fe282d7d7619b745864d413902a186bde34ada96ed8aea8"), looks := true }, kinds := [], alts := [], laidByText := true, laidKinds := [.data, .data], laidTests := true, laidLooks := .later }
def CpsTwiceUptoCardSaid : Prop := Claim7.holds Tryz.pinned (.plain (OpenSpec.upto cpsTwiceSpec)) cpsTwiceUptoCard
end Rows
end Go.Proofs.YtmdkenkhaicbeaaGreatDoor
