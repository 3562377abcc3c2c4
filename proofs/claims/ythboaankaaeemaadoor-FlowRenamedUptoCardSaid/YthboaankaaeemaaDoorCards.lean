/-
  DERIVED. GIVEN WITH THE SEED: THE CARDS: each row of YthboaankaaeemaaDoorRows.lean that lists a variable, with what it lists TIED to the program's text (the seventh form; the later family's looks); each row that meets fmt, with fmt's text TOLD by the authors' own Lean function (tested against real Go, not proved from fmt's source: count such statements apart). THE CARD IS WHAT COUNTS. Prove the row's statement (the work); the ties are given (YthboaankaaeemaaDoorTie.lean); close each card by the builder's one call (the guide's Derived/Test/ToyasCard.lean, 'card_holds'). Laid BY PROGRAM, IN A SANDBOX (cutbox-door.mjs). By AI agents, Wed Nov 11 2026. No macro, syntax, notation, axiom, sorry.
-/
import Derived.Test.YthboaankaaeemaaDoorRows
import GoSem.ClaimSeven
namespace Go.Proofs.YthboaankaaeemaaDoor
namespace Rows

/-- THE TIED CARD OF 'provenancekeep2.FlowTrue'. -/
def flowTrueCard : Claim7 := { stood := { row := flowTrueRow, standIns := [], harness := (true, "d10d6b2aa31d26424f0e95e36c45b09407faff0b127822684822a01d97def801"), looks := true }, kinds := [], alts := [], laidByText := true, laidKinds := [.data, .data], laidTests := true, laidLooks := .later }
def FlowTrueCardSaid : Prop := Claim7.holds Tryd.pinned (.plain (OpenSpec.ofChange flowTrueSpec)) flowTrueCard

/-- THE TIED CARD OF 'provenancekeep2.FuseSelf'. -/
def fuseSelfCard : Claim7 := { stood := { row := fuseSelfRow, standIns := [], harness := (true, "d10d6b2aa31d26424f0e95e36c45b09407faff0b127822684822a01d97def801"), looks := true }, kinds := [], alts := [], laidByText := true, laidKinds := [.data], laidTests := true, laidLooks := .later }
def FuseSelfCardSaid : Prop := Claim7.holds Tryd.pinned (.plain (OpenSpec.ofChange fuseSelfSpec)) fuseSelfCard

/-- THE TIED CARD OF 'provenancekeep2.FlowRenamed'. -/
def flowRenamedCard : Claim7 := { stood := { row := flowRenamedRow, standIns := [], harness := (true, "d10d6b2aa31d26424f0e95e36c45b09407faff0b127822684822a01d97def801"), looks := true }, kinds := [], alts := [], laidByText := true, laidKinds := [.data, .data], laidTests := true, laidLooks := .later }
def FlowRenamedCardSaid : Prop := Claim7.holds Tryd.pinned (.plain (OpenSpec.ofChange flowRenamedSpec)) flowRenamedCard

/-- THE TIED CARD OF 'provenancekeep2.FuseStops'. -/
def fuseStopsCard : Claim7 := { stood := { row := fuseStopsRow, standIns := [], harness := (true, "d10d6b2aa31d26424f0e95e36c45b09407faff0b127822684822a01d97def801"), looks := true }, kinds := [], alts := [], laidByText := true, laidKinds := [.data], laidTests := true, laidLooks := .later }
def FuseStopsCardSaid : Prop := Claim7.holds Tryd.pinned (.plain (OpenSpec.ofChange fuseStopsSpec)) fuseStopsCard

/-- THE SECOND FORM's CARD OF 'provenancekeep2.FlowTrue'. -/
def flowTrueUptoCard : Claim7 := { stood := { row := flowTrueUptoRow, standIns := [], harness := (true, "d10d6b2aa31d26424f0e95e36c45b09407faff0b127822684822a01d97def801"), looks := true }, kinds := [], alts := [], laidByText := true, laidKinds := [.data, .data], laidTests := true, laidLooks := .later }
def FlowTrueUptoCardSaid : Prop := Claim7.holds Tryd.pinned (.plain (OpenSpec.upto flowTrueSpec)) flowTrueUptoCard

/-- THE SECOND FORM's CARD OF 'provenancekeep2.FuseSelf'. -/
def fuseSelfUptoCard : Claim7 := { stood := { row := fuseSelfUptoRow, standIns := [], harness := (true, "d10d6b2aa31d26424f0e95e36c45b09407faff0b127822684822a01d97def801"), looks := true }, kinds := [], alts := [], laidByText := true, laidKinds := [.data], laidTests := true, laidLooks := .later }
def FuseSelfUptoCardSaid : Prop := Claim7.holds Tryd.pinned (.plain (OpenSpec.upto fuseSelfSpec)) fuseSelfUptoCard

/-- THE SECOND FORM's CARD OF 'provenancekeep2.FlowRenamed'. -/
def flowRenamedUptoCard : Claim7 := { stood := { row := flowRenamedUptoRow, standIns := [], harness := (true, "d10d6b2aa31d26424f0e95e36c45b09407faff0b127822684822a01d97def801"), looks := true }, kinds := [], alts := [], laidByText := true, laidKinds := [.data, .data], laidTests := true, laidLooks := .later }
def FlowRenamedUptoCardSaid : Prop := Claim7.holds Tryd.pinned (.plain (OpenSpec.upto flowRenamedSpec)) flowRenamedUptoCard

/-- THE SECOND FORM's CARD OF 'provenancekeep2.FuseStops'. -/
def fuseStopsUptoCard : Claim7 := { stood := { row := fuseStopsUptoRow, standIns := [], harness := (true, "d10d6b2aa31d26424f0e95e36c45b09407faff0b127822684822a01d97def801"), looks := true }, kinds := [], alts := [], laidByText := true, laidKinds := [.data], laidTests := true, laidLooks := .later }
def FuseStopsUptoCardSaid : Prop := Claim7.holds Tryd.pinned (.plain (OpenSpec.upto fuseStopsSpec)) fuseStopsUptoCard
end Rows
end Go.Proofs.YthboaankaaeemaaDoor
