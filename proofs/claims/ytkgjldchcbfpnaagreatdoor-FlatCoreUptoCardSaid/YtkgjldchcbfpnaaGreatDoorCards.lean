/-
  DERIVED. GIVEN WITH THE SEED: THE CARDS: each row of YtkgjldchcbfpnaaGreatDoorRows.lean that lists a variable, with what it lists TIED to the program's text (the seventh form; the later family's looks); each row that meets fmt, with fmt's text TOLD by the authors' own Lean function (tested against real Go, not proved from fmt's source: count such statements apart). THE CARD IS WHAT COUNTS. Prove the row's statement (the work); the ties are given (YtkgjldchcbfpnaaGreatDoorTie.lean); close each card by the builder's one call (the guide's Derived/Test/ToyasCard.lean, 'card_holds'). Laid BY PROGRAM, IN A SANDBOX (cutbox-door.mjs). By AI agents, Wed Nov 11 2026. No macro, syntax, notation, axiom, sorry.
-/
import Derived.Test.YtkgjldchcbfpnaaGreatDoorRows
import GoSem.ClaimSeven
namespace Go.Proofs.YtkgjldchcbfpnaaGreatDoor
namespace Rows

/-- THE TIED CARD OF 'provenancekeep2.FlatFuel'. -/
def flatFuelCard : Claim7 := { stood := { row := flatFuelRow, standIns := [], harness := (true, "493a47f0213ba3444ca8a9cea031bdf809f2db7e4f2730330cbf30a3a7bf2001"), looks := true }, kinds := [], alts := [], laidByText := true, laidKinds := [.data], laidTests := true, laidLooks := .later }
def FlatFuelCardSaid : Prop := Claim7.holds Tryz.pinned (.plain (OpenSpec.ofChange flatFuelSpec)) flatFuelCard

/-- THE TIED CARD OF 'provenancekeep2.FlatCore'. -/
def flatCoreCard : Claim7 := { stood := { row := flatCoreRow, standIns := [], harness := (true, "493a47f0213ba3444ca8a9cea031bdf809f2db7e4f2730330cbf30a3a7bf2001"), looks := true }, kinds := [], alts := [], laidByText := true, laidKinds := [.data], laidTests := true, laidLooks := .later }
def FlatCoreCardSaid : Prop := Claim7.holds Tryz.pinned (.plain (OpenSpec.ofChange flatCoreSpec)) flatCoreCard

/-- THE TIED CARD OF 'provenancekeep2.CloseKeeps'. -/
def closeKeepsCard : Claim7 := { stood := { row := closeKeepsRow, standIns := [], harness := (true, "493a47f0213ba3444ca8a9cea031bdf809f2db7e4f2730330cbf30a3a7bf2001"), looks := true }, kinds := [], alts := [], laidByText := true, laidKinds := [.data], laidTests := true, laidLooks := .later }
def CloseKeepsCardSaid : Prop := Claim7.holds Tryz.pinned (.plain (OpenSpec.ofChange closeKeepsSpec)) closeKeepsCard

/-- THE TIED CARD OF 'provenancekeep2.LowerNames'. -/
def lowerNamesCard : Claim7 := { stood := { row := lowerNamesRow, standIns := [], harness := (true, "493a47f0213ba3444ca8a9cea031bdf809f2db7e4f2730330cbf30a3a7bf2001"), looks := true }, kinds := [], alts := [], laidByText := true, laidKinds := [.data, .data], laidTests := true, laidLooks := .later }
def LowerNamesCardSaid : Prop := Claim7.holds Tryz.pinned (.plain (OpenSpec.ofChange lowerNamesSpec)) lowerNamesCard

/-- THE SECOND FORM's CARD OF 'provenancekeep2.FlatFuel'. -/
def flatFuelUptoCard : Claim7 := { stood := { row := flatFuelUptoRow, standIns := [], harness := (true, "493a47f0213ba3444ca8a9cea031bdf809f2db7e4f2730330cbf30a3a7bf2001"), looks := true }, kinds := [], alts := [], laidByText := true, laidKinds := [.data], laidTests := true, laidLooks := .later }
def FlatFuelUptoCardSaid : Prop := Claim7.holds Tryz.pinned (.plain (OpenSpec.upto flatFuelSpec)) flatFuelUptoCard

/-- THE SECOND FORM's CARD OF 'provenancekeep2.FlatCore'. -/
def flatCoreUptoCard : Claim7 := { stood := { row := flatCoreUptoRow, standIns := [], harness := (true, "493a47f0213ba3444ca8a9cea031bdf809f2db7e4f2730330cbf30a3a7bf2001"), looks := true }, kinds := [], alts := [], laidByText := true, laidKinds := [.data], laidTests := true, laidLooks := .later }
def FlatCoreUptoCardSaid : Prop := Claim7.holds Tryz.pinned (.plain (OpenSpec.upto flatCoreSpec)) flatCoreUptoCard

/-- THE SECOND FORM's CARD OF 'provenancekeep2.CloseKeeps'. -/
def closeKeepsUptoCard : Claim7 := { stood := { row := closeKeepsUptoRow, standIns := [], harness := (true, "493a47f0213ba3444ca8a9cea031bdf809f2db7e4f2730330cbf30a3a7bf2001"), looks := true }, kinds := [], alts := [], laidByText := true, laidKinds := [.data], laidTests := true, laidLooks := .later }
def CloseKeepsUptoCardSaid : Prop := Claim7.holds Tryz.pinned (.plain (OpenSpec.upto closeKeepsSpec)) closeKeepsUptoCard

/-- THE SECOND FORM's CARD OF 'provenancekeep2.LowerNames'. -/
def lowerNamesUptoCard : Claim7 := { stood := { row := lowerNamesUptoRow, standIns := [], harness := (true, "493a47f0213ba3444ca8a9cea031bdf809f2db7e4f2730330cbf30a3a7bf2001"), looks := true }, kinds := [], alts := [], laidByText := true, laidKinds := [.data, .data], laidTests := true, laidLooks := .later }
def LowerNamesUptoCardSaid : Prop := Claim7.holds Tryz.pinned (.plain (OpenSpec.upto lowerNamesSpec)) lowerNamesUptoCard
end Rows
end Go.Proofs.YtkgjldchcbfpnaaGreatDoor
