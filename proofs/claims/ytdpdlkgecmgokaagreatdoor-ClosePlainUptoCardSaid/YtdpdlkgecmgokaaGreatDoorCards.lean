/-
  DERIVED. GIVEN WITH THE SEED: THE CARDS: each row of YtdpdlkgecmgokaaGreatDoorRows.lean that lists a variable, with what it lists TIED to the program's text (the seventh form; the later family's looks); each row that meets fmt, with fmt's text TOLD by the authors' own Lean function (tested against real Go, not proved from fmt's source: count such statements apart). THE CARD IS WHAT COUNTS. Prove the row's statement (the work); the ties are given (YtdpdlkgecmgokaaGreatDoorTie.lean); close each card by the builder's one call (the guide's Derived/Test/ToyasCard.lean, 'card_holds'). Laid BY PROGRAM, IN A SANDBOX (cutbox-door.mjs). By AI agents, Wed Nov 11 2026. No macro, syntax, notation, axiom, sorry.
-/
import Derived.Test.YtdpdlkgecmgokaaGreatDoorRows
import GoSem.ClaimSeven
namespace Go.Proofs.YtdpdlkgecmgokaaGreatDoor
namespace Rows

/-- THE TIED CARD OF 'provenancekeep2.FlatFuel'. -/
def flatFuelCard : Claim7 := { stood := { row := flatFuelRow, standIns := [], harness := (true, "3e66d385dc9c08fe26bdc6b81c8e948b78a17f3e42570f126d2ae6ac6d154126"), looks := true }, kinds := [], alts := [], laidByText := true, laidKinds := [.data], laidTests := true, laidLooks := .later }
def FlatFuelCardSaid : Prop := Claim7.holds Tryz.pinned (.plain (OpenSpec.ofChange flatFuelSpec)) flatFuelCard

/-- THE TIED CARD OF 'provenancekeep2.FlatClosed'. -/
def flatClosedCard : Claim7 := { stood := { row := flatClosedRow, standIns := [], harness := (true, "3e66d385dc9c08fe26bdc6b81c8e948b78a17f3e42570f126d2ae6ac6d154126"), looks := true }, kinds := [], alts := [], laidByText := true, laidKinds := [.data], laidTests := true, laidLooks := .later }
def FlatClosedCardSaid : Prop := Claim7.holds Tryz.pinned (.plain (OpenSpec.ofChange flatClosedSpec)) flatClosedCard

/-- THE TIED CARD OF 'provenancekeep2.FlatCore'. -/
def flatCoreCard : Claim7 := { stood := { row := flatCoreRow, standIns := [], harness := (true, "3e66d385dc9c08fe26bdc6b81c8e948b78a17f3e42570f126d2ae6ac6d154126"), looks := true }, kinds := [], alts := [], laidByText := true, laidKinds := [.data], laidTests := true, laidLooks := .later }
def FlatCoreCardSaid : Prop := Claim7.holds Tryz.pinned (.plain (OpenSpec.ofChange flatCoreSpec)) flatCoreCard

/-- THE TIED CARD OF 'provenancekeep2.CloseErrors'. -/
def closeErrorsCard : Claim7 := { stood := { row := closeErrorsRow, standIns := [], harness := (true, "3e66d385dc9c08fe26bdc6b81c8e948b78a17f3e42570f126d2ae6ac6d154126"), looks := true }, kinds := [], alts := [], laidByText := true, laidKinds := [.data], laidTests := true, laidLooks := .later }
def CloseErrorsCardSaid : Prop := Claim7.holds Tryz.pinned (.plain (OpenSpec.ofChange closeErrorsSpec)) closeErrorsCard

/-- THE TIED CARD OF 'provenancekeep2.CloseCounts'. -/
def closeCountsCard : Claim7 := { stood := { row := closeCountsRow, standIns := [], harness := (true, "3e66d385dc9c08fe26bdc6b81c8e948b78a17f3e42570f126d2ae6ac6d154126"), looks := true }, kinds := [], alts := [], laidByText := true, laidKinds := [.data], laidTests := true, laidLooks := .later }
def CloseCountsCardSaid : Prop := Claim7.holds Tryz.pinned (.plain (OpenSpec.ofChange closeCountsSpec)) closeCountsCard

/-- THE TIED CARD OF 'provenancekeep2.CloseKeeps'. -/
def closeKeepsCard : Claim7 := { stood := { row := closeKeepsRow, standIns := [], harness := (true, "3e66d385dc9c08fe26bdc6b81c8e948b78a17f3e42570f126d2ae6ac6d154126"), looks := true }, kinds := [], alts := [], laidByText := true, laidKinds := [.data], laidTests := true, laidLooks := .later }
def CloseKeepsCardSaid : Prop := Claim7.holds Tryz.pinned (.plain (OpenSpec.ofChange closeKeepsSpec)) closeKeepsCard

/-- THE TIED CARD OF 'provenancekeep2.ClosePlain'. -/
def closePlainCard : Claim7 := { stood := { row := closePlainRow, standIns := [], harness := (true, "3e66d385dc9c08fe26bdc6b81c8e948b78a17f3e42570f126d2ae6ac6d154126"), looks := true }, kinds := [], alts := [], laidByText := true, laidKinds := [.data], laidTests := true, laidLooks := .later }
def ClosePlainCardSaid : Prop := Claim7.holds Tryz.pinned (.plain (OpenSpec.ofChange closePlainSpec)) closePlainCard

/-- THE SECOND FORM's CARD OF 'provenancekeep2.FlatFuel'. -/
def flatFuelUptoCard : Claim7 := { stood := { row := flatFuelUptoRow, standIns := [], harness := (true, "3e66d385dc9c08fe26bdc6b81c8e948b78a17f3e42570f126d2ae6ac6d154126"), looks := true }, kinds := [], alts := [], laidByText := true, laidKinds := [.data], laidTests := true, laidLooks := .later }
def FlatFuelUptoCardSaid : Prop := Claim7.holds Tryz.pinned (.plain (OpenSpec.upto flatFuelSpec)) flatFuelUptoCard

/-- THE SECOND FORM's CARD OF 'provenancekeep2.FlatClosed'. -/
def flatClosedUptoCard : Claim7 := { stood := { row := flatClosedUptoRow, standIns := [], harness := (true, "3e66d385dc9c08fe26bdc6b81c8e948b78a17f3e42570f126d2ae6ac6d154126"), looks := true }, kinds := [], alts := [], laidByText := true, laidKinds := [.data], laidTests := true, laidLooks := .later }
def FlatClosedUptoCardSaid : Prop := Claim7.holds Tryz.pinned (.plain (OpenSpec.upto flatClosedSpec)) flatClosedUptoCard

/-- THE SECOND FORM's CARD OF 'provenancekeep2.FlatCore'. -/
def flatCoreUptoCard : Claim7 := { stood := { row := flatCoreUptoRow, standIns := [], harness := (true, "3e66d385dc9c08fe26bdc6b81c8e948b78a17f3e42570f126d2ae6ac6d154126"), looks := true }, kinds := [], alts := [], laidByText := true, laidKinds := [.data], laidTests := true, laidLooks := .later }
def FlatCoreUptoCardSaid : Prop := Claim7.holds Tryz.pinned (.plain (OpenSpec.upto flatCoreSpec)) flatCoreUptoCard

/-- THE SECOND FORM's CARD OF 'provenancekeep2.CloseErrors'. -/
def closeErrorsUptoCard : Claim7 := { stood := { row := closeErrorsUptoRow, standIns := [], harness := (true, "3e66d385dc9c08fe26bdc6b81c8e948b78a17f3e42570f126d2ae6ac6d154126"), looks := true }, kinds := [], alts := [], laidByText := true, laidKinds := [.data], laidTests := true, laidLooks := .later }
def CloseErrorsUptoCardSaid : Prop := Claim7.holds Tryz.pinned (.plain (OpenSpec.upto closeErrorsSpec)) closeErrorsUptoCard

/-- THE SECOND FORM's CARD OF 'provenancekeep2.CloseCounts'. -/
def closeCountsUptoCard : Claim7 := { stood := { row := closeCountsUptoRow, standIns := [], harness := (true, "3e66d385dc9c08fe26bdc6b81c8e948b78a17f3e42570f126d2ae6ac6d154126"), looks := true }, kinds := [], alts := [], laidByText := true, laidKinds := [.data], laidTests := true, laidLooks := .later }
def CloseCountsUptoCardSaid : Prop := Claim7.holds Tryz.pinned (.plain (OpenSpec.upto closeCountsSpec)) closeCountsUptoCard

/-- THE SECOND FORM's CARD OF 'provenancekeep2.CloseKeeps'. -/
def closeKeepsUptoCard : Claim7 := { stood := { row := closeKeepsUptoRow, standIns := [], harness := (true, "3e66d385dc9c08fe26bdc6b81c8e948b78a17f3e42570f126d2ae6ac6d154126"), looks := true }, kinds := [], alts := [], laidByText := true, laidKinds := [.data], laidTests := true, laidLooks := .later }
def CloseKeepsUptoCardSaid : Prop := Claim7.holds Tryz.pinned (.plain (OpenSpec.upto closeKeepsSpec)) closeKeepsUptoCard

/-- THE SECOND FORM's CARD OF 'provenancekeep2.ClosePlain'. -/
def closePlainUptoCard : Claim7 := { stood := { row := closePlainUptoRow, standIns := [], harness := (true, "3e66d385dc9c08fe26bdc6b81c8e948b78a17f3e42570f126d2ae6ac6d154126"), looks := true }, kinds := [], alts := [], laidByText := true, laidKinds := [.data], laidTests := true, laidLooks := .later }
def ClosePlainUptoCardSaid : Prop := Claim7.holds Tryz.pinned (.plain (OpenSpec.upto closePlainSpec)) closePlainUptoCard
end Rows
end Go.Proofs.YtdpdlkgecmgokaaGreatDoor
