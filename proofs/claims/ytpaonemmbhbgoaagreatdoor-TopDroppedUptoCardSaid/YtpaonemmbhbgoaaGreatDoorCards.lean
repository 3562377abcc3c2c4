/-
  DERIVED. GIVEN WITH THE SEED: THE CARDS: each row of YtpaonemmbhbgoaaGreatDoorRows.lean that lists a variable, with what it lists TIED to the program's text (the seventh form; the later family's looks); each row that meets fmt, with fmt's text TOLD by the authors' own Lean function (tested against real Go, not proved from fmt's source: count such statements apart). THE CARD IS WHAT COUNTS. Prove the row's statement (the work); the ties are given (YtpaonemmbhbgoaaGreatDoorTie.lean); close each card by the builder's one call (the guide's Derived/Test/ToyasCard.lean, 'card_holds'). Laid BY PROGRAM, IN A SANDBOX (cutbox-door.mjs). By AI agents, Wed Nov 11 2026. No macro, syntax, notation, axiom, sorry.
-/
import Derived.Test.YtpaonemmbhbgoaaGreatDoorRows
import GoSem.ClaimSeven
namespace Go.Proofs.YtpaonemmbhbgoaaGreatDoor
namespace Rows

/-- THE TIED CARD OF 'provenancetop.TopDropped'. -/
def topDroppedCard : Claim7 := { stood := { row := topDroppedRow, standIns := [], harness := (true, "f03749e9527b60f5f021ad4d8e27bbbba81d455eb3d104cffd70102b36752678"), looks := true }, kinds := [], alts := [], laidByText := true, laidKinds := [.data, .data], laidTests := true, laidLooks := .later }
def TopDroppedCardSaid : Prop := Claim7.holds Tryz.pinned (.plain (OpenSpec.ofChange topDroppedSpec)) topDroppedCard

/-- THE TIED CARD OF 'provenancetop.TopReplay'. -/
def topReplayCard : Claim7 := { stood := { row := topReplayRow, standIns := [], harness := (true, "f03749e9527b60f5f021ad4d8e27bbbba81d455eb3d104cffd70102b36752678"), looks := true }, kinds := [], alts := [], laidByText := true, laidKinds := [.data, .data], laidTests := true, laidLooks := .later }
def TopReplayCardSaid : Prop := Claim7.holds Tryz.pinned (.plain (OpenSpec.ofChange topReplaySpec)) topReplayCard

/-- THE TIED CARD OF 'provenancekeep2.EvalResumes'. -/
def evalResumesCard : Claim7 := { stood := { row := evalResumesRow, standIns := [], harness := (true, "f03749e9527b60f5f021ad4d8e27bbbba81d455eb3d104cffd70102b36752678"), looks := true }, kinds := [], alts := [], laidByText := true, laidKinds := [.data], laidTests := true, laidLooks := .later }
def EvalResumesCardSaid : Prop := Claim7.holds Tryz.pinned (.plain (OpenSpec.ofChange evalResumesSpec)) evalResumesCard

/-- THE TIED CARD OF 'provenancekeep2.EvalNested'. -/
def evalNestedCard : Claim7 := { stood := { row := evalNestedRow, standIns := [], harness := (true, "f03749e9527b60f5f021ad4d8e27bbbba81d455eb3d104cffd70102b36752678"), looks := true }, kinds := [], alts := [], laidByText := true, laidKinds := [.data], laidTests := true, laidLooks := .later }
def EvalNestedCardSaid : Prop := Claim7.holds Tryz.pinned (.plain (OpenSpec.ofChange evalNestedSpec)) evalNestedCard

/-- THE TIED CARD OF 'provenancekeep2.EvalResumed'. -/
def evalResumedCard : Claim7 := { stood := { row := evalResumedRow, standIns := [], harness := (true, "f03749e9527b60f5f021ad4d8e27bbbba81d455eb3d104cffd70102b36752678"), looks := true }, kinds := [], alts := [], laidByText := true, laidKinds := [.data], laidTests := true, laidLooks := .later }
def EvalResumedCardSaid : Prop := Claim7.holds Tryz.pinned (.plain (OpenSpec.ofChange evalResumedSpec)) evalResumedCard

/-- THE TIED CARD OF 'provenancekeep2.EvalLoop'. -/
def evalLoopCard : Claim7 := { stood := { row := evalLoopRow, standIns := [], harness := (true, "f03749e9527b60f5f021ad4d8e27bbbba81d455eb3d104cffd70102b36752678"), looks := true }, kinds := [], alts := [], laidByText := true, laidKinds := [.data], laidTests := true, laidLooks := .later }
def EvalLoopCardSaid : Prop := Claim7.holds Tryz.pinned (.plain (OpenSpec.ofChange evalLoopSpec)) evalLoopCard

/-- THE TIED CARD OF 'provenancekeep2.LiftClosed'. -/
def liftClosedCard : Claim7 := { stood := { row := liftClosedRow, standIns := [], harness := (true, "f03749e9527b60f5f021ad4d8e27bbbba81d455eb3d104cffd70102b36752678"), looks := true }, kinds := [], alts := [], laidByText := true, laidKinds := [.data], laidTests := true, laidLooks := .later }
def LiftClosedCardSaid : Prop := Claim7.holds Tryz.pinned (.plain (OpenSpec.ofChange liftClosedSpec)) liftClosedCard

/-- THE TIED CARD OF 'provenancekeep2.ContifyTwice'. -/
def contifyTwiceCard : Claim7 := { stood := { row := contifyTwiceRow, standIns := [], harness := (true, "f03749e9527b60f5f021ad4d8e27bbbba81d455eb3d104cffd70102b36752678"), looks := true }, kinds := [], alts := [], laidByText := true, laidKinds := [.data], laidTests := true, laidLooks := .later }
def ContifyTwiceCardSaid : Prop := Claim7.holds Tryz.pinned (.plain (OpenSpec.ofChange contifyTwiceSpec)) contifyTwiceCard

/-- THE TIED CARD OF 'provenancekeep2.LiftPlain'. -/
def liftPlainCard : Claim7 := { stood := { row := liftPlainRow, standIns := [], harness := (true, "f03749e9527b60f5f021ad4d8e27bbbba81d455eb3d104cffd70102b36752678"), looks := true }, kinds := [], alts := [], laidByText := true, laidKinds := [.data], laidTests := true, laidLooks := .later }
def LiftPlainCardSaid : Prop := Claim7.holds Tryz.pinned (.plain (OpenSpec.ofChange liftPlainSpec)) liftPlainCard

/-- THE TIED CARD OF 'provenancekeep2.SimplifyWords'. -/
def simplifyWordsCard : Claim7 := { stood := { row := simplifyWordsRow, standIns := [], harness := (true, "f03749e9527b60f5f021ad4d8e27bbbba81d455eb3d104cffd70102b36752678"), looks := true }, kinds := [], alts := [], laidByText := true, laidKinds := [.data, .data], laidTests := true, laidLooks := .later }
def SimplifyWordsCardSaid : Prop := Claim7.holds Tryz.pinned (.plain (OpenSpec.ofChange simplifyWordsSpec)) simplifyWordsCard

/-- THE SECOND FORM's CARD OF 'provenancetop.TopDropped'. -/
def topDroppedUptoCard : Claim7 := { stood := { row := topDroppedUptoRow, standIns := [], harness := (true, "f03749e9527b60f5f021ad4d8e27bbbba81d455eb3d104cffd70102b36752678"), looks := true }, kinds := [], alts := [], laidByText := true, laidKinds := [.data, .data], laidTests := true, laidLooks := .later }
def TopDroppedUptoCardSaid : Prop := Claim7.holds Tryz.pinned (.plain (OpenSpec.upto topDroppedSpec)) topDroppedUptoCard

/-- THE SECOND FORM's CARD OF 'provenancetop.TopReplay'. -/
def topReplayUptoCard : Claim7 := { stood := { row := topReplayUptoRow, standIns := [], harness := (true, "f03749e9527b60f5f021ad4d8e27bbbba81d455eb3d104cffd70102b36752678"), looks := true }, kinds := [], alts := [], laidByText := true, laidKinds := [.data, .data], laidTests := true, laidLooks := .later }
def TopReplayUptoCardSaid : Prop := Claim7.holds Tryz.pinned (.plain (OpenSpec.upto topReplaySpec)) topReplayUptoCard

/-- THE SECOND FORM's CARD OF 'provenancekeep2.EvalResumes'. -/
def evalResumesUptoCard : Claim7 := { stood := { row := evalResumesUptoRow, standIns := [], harness := (true, "f03749e9527b60f5f021ad4d8e27bbbba81d455eb3d104cffd70102b36752678"), looks := true }, kinds := [], alts := [], laidByText := true, laidKinds := [.data], laidTests := true, laidLooks := .later }
def EvalResumesUptoCardSaid : Prop := Claim7.holds Tryz.pinned (.plain (OpenSpec.upto evalResumesSpec)) evalResumesUptoCard

/-- THE SECOND FORM's CARD OF 'provenancekeep2.EvalNested'. -/
def evalNestedUptoCard : Claim7 := { stood := { row := evalNestedUptoRow, standIns := [], harness := (true, "f03749e9527b60f5f021ad4d8e27bbbba81d455eb3d104cffd70102b36752678"), looks := true }, kinds := [], alts := [], laidByText := true, laidKinds := [.data], laidTests := true, laidLooks := .later }
def EvalNestedUptoCardSaid : Prop := Claim7.holds Tryz.pinned (.plain (OpenSpec.upto evalNestedSpec)) evalNestedUptoCard

/-- THE SECOND FORM's CARD OF 'provenancekeep2.EvalResumed'. -/
def evalResumedUptoCard : Claim7 := { stood := { row := evalResumedUptoRow, standIns := [], harness := (true, "f03749e9527b60f5f021ad4d8e27bbbba81d455eb3d104cffd70102b36752678"), looks := true }, kinds := [], alts := [], laidByText := true, laidKinds := [.data], laidTests := true, laidLooks := .later }
def EvalResumedUptoCardSaid : Prop := Claim7.holds Tryz.pinned (.plain (OpenSpec.upto evalResumedSpec)) evalResumedUptoCard

/-- THE SECOND FORM's CARD OF 'provenancekeep2.EvalLoop'. -/
def evalLoopUptoCard : Claim7 := { stood := { row := evalLoopUptoRow, standIns := [], harness := (true, "f03749e9527b60f5f021ad4d8e27bbbba81d455eb3d104cffd70102b36752678"), looks := true }, kinds := [], alts := [], laidByText := true, laidKinds := [.data], laidTests := true, laidLooks := .later }
def EvalLoopUptoCardSaid : Prop := Claim7.holds Tryz.pinned (.plain (OpenSpec.upto evalLoopSpec)) evalLoopUptoCard

/-- THE SECOND FORM's CARD OF 'provenancekeep2.LiftClosed'. -/
def liftClosedUptoCard : Claim7 := { stood := { row := liftClosedUptoRow, standIns := [], harness := (true, "f03749e9527b60f5f021ad4d8e27bbbba81d455eb3d104cffd70102b36752678"), looks := true }, kinds := [], alts := [], laidByText := true, laidKinds := [.data], laidTests := true, laidLooks := .later }
def LiftClosedUptoCardSaid : Prop := Claim7.holds Tryz.pinned (.plain (OpenSpec.upto liftClosedSpec)) liftClosedUptoCard

/-- THE SECOND FORM's CARD OF 'provenancekeep2.ContifyTwice'. -/
def contifyTwiceUptoCard : Claim7 := { stood := { row := contifyTwiceUptoRow, standIns := [], harness := (true, "f03749e9527b60f5f021ad4d8e27bbbba81d455eb3d104cffd70102b36752678"), looks := true }, kinds := [], alts := [], laidByText := true, laidKinds := [.data], laidTests := true, laidLooks := .later }
def ContifyTwiceUptoCardSaid : Prop := Claim7.holds Tryz.pinned (.plain (OpenSpec.upto contifyTwiceSpec)) contifyTwiceUptoCard

/-- THE SECOND FORM's CARD OF 'provenancekeep2.LiftPlain'. -/
def liftPlainUptoCard : Claim7 := { stood := { row := liftPlainUptoRow, standIns := [], harness := (true, "f03749e9527b60f5f021ad4d8e27bbbba81d455eb3d104cffd70102b36752678"), looks := true }, kinds := [], alts := [], laidByText := true, laidKinds := [.data], laidTests := true, laidLooks := .later }
def LiftPlainUptoCardSaid : Prop := Claim7.holds Tryz.pinned (.plain (OpenSpec.upto liftPlainSpec)) liftPlainUptoCard

/-- THE SECOND FORM's CARD OF 'provenancekeep2.SimplifyWords'. -/
def simplifyWordsUptoCard : Claim7 := { stood := { row := simplifyWordsUptoRow, standIns := [], harness := (true, "f03749e9527b60f5f021ad4d8e27bbbba81d455eb3d104cffd70102b36752678"), looks := true }, kinds := [], alts := [], laidByText := true, laidKinds := [.data, .data], laidTests := true, laidLooks := .later }
def SimplifyWordsUptoCardSaid : Prop := Claim7.holds Tryz.pinned (.plain (OpenSpec.upto simplifyWordsSpec)) simplifyWordsUptoCard
end Rows
end Go.Proofs.YtpaonemmbhbgoaaGreatDoor
