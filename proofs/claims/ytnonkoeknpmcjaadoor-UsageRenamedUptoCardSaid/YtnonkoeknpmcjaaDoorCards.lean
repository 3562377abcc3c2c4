/-
  DERIVED. GIVEN WITH THE SEED: THE CARDS: each row of YtnonkoeknpmcjaaDoorRows.lean that lists a variable, with what it lists TIED to the program's text (the seventh form; the later family's looks); each row that meets fmt, with fmt's text TOLD by the authors' own Lean function (tested against real Go, not proved from fmt's source: count such statements apart). THE CARD IS WHAT COUNTS. Prove the row's statement (the work); the ties are given (YtnonkoeknpmcjaaDoorTie.lean); close each card by the builder's one call (the guide's Derived/Test/ToyasCard.lean, 'card_holds'). Laid BY PROGRAM, IN A SANDBOX (cutbox-door.mjs). By AI agents, Wed Nov 11 2026. No macro, syntax, notation, axiom, sorry.
-/
import Derived.Test.YtnonkoeknpmcjaaDoorRows
import GoSem.ClaimSeven
namespace Go.Proofs.YtnonkoeknpmcjaaDoor
namespace Rows

/-- THE TIED CARD OF 'provenancekeep2.CoreOrdered'. -/
def coreOrderedCard : Claim7 := { stood := { row := coreOrderedRow, standIns := [], harness := (true, "07721d9e627b48f677c12d830cbfef092c12729523d8171bfefe23e5da046baa"), looks := false }, kinds := [], alts := [], laidByText := true, laidKinds := [.data], laidTests := true, laidLooks := .later }
def CoreOrderedCardSaid : Prop := Claim7.holds Tryd.pinned (.plain (OpenSpec.ofChange coreOrderedSpec)) coreOrderedCard

/-- THE TIED CARD OF 'provenancekeep2.CoreFreeUp'. -/
def coreFreeUpCard : Claim7 := { stood := { row := coreFreeUpRow, standIns := [], harness := (true, "07721d9e627b48f677c12d830cbfef092c12729523d8171bfefe23e5da046baa"), looks := false }, kinds := [], alts := [], laidByText := true, laidKinds := [.data], laidTests := true, laidLooks := .later }
def CoreFreeUpCardSaid : Prop := Claim7.holds Tryd.pinned (.plain (OpenSpec.ofChange coreFreeUpSpec)) coreFreeUpCard

/-- THE TIED CARD OF 'provenancekeep2.CoreRenewed'. -/
def coreRenewedCard : Claim7 := { stood := { row := coreRenewedRow, standIns := [], harness := (true, "07721d9e627b48f677c12d830cbfef092c12729523d8171bfefe23e5da046baa"), looks := false }, kinds := [], alts := [], laidByText := true, laidKinds := [.data], laidTests := true, laidLooks := .later }
def CoreRenewedCardSaid : Prop := Claim7.holds Tryd.pinned (.plain (OpenSpec.ofChange coreRenewedSpec)) coreRenewedCard

/-- THE TIED CARD OF 'provenancekeep2.CoreCut'. -/
def coreCutCard : Claim7 := { stood := { row := coreCutRow, standIns := [], harness := (true, "07721d9e627b48f677c12d830cbfef092c12729523d8171bfefe23e5da046baa"), looks := false }, kinds := [], alts := [], laidByText := true, laidKinds := [.data], laidTests := true, laidLooks := .later }
def CoreCutCardSaid : Prop := Claim7.holds Tryd.pinned (.plain (OpenSpec.ofChange coreCutSpec)) coreCutCard

/-- THE TIED CARD OF 'provenancekeep2.PurityAbove'. -/
def purityAboveCard : Claim7 := { stood := { row := purityAboveRow, standIns := [], harness := (true, "07721d9e627b48f677c12d830cbfef092c12729523d8171bfefe23e5da046baa"), looks := false }, kinds := [], alts := [], laidByText := true, laidKinds := [.data], laidTests := true, laidLooks := .later }
def PurityAboveCardSaid : Prop := Claim7.holds Tryd.pinned (.plain (OpenSpec.ofChange purityAboveSpec)) purityAboveCard

/-- THE TIED CARD OF 'provenancekeep2.UsageNever'. -/
def usageNeverCard : Claim7 := { stood := { row := usageNeverRow, standIns := [], harness := (true, "07721d9e627b48f677c12d830cbfef092c12729523d8171bfefe23e5da046baa"), looks := false }, kinds := [], alts := [], laidByText := true, laidKinds := [.data], laidTests := true, laidLooks := .later }
def UsageNeverCardSaid : Prop := Claim7.holds Tryd.pinned (.plain (OpenSpec.ofChange usageNeverSpec)) usageNeverCard

/-- THE TIED CARD OF 'provenancekeep2.UsageRenamed'. -/
def usageRenamedCard : Claim7 := { stood := { row := usageRenamedRow, standIns := [], harness := (true, "07721d9e627b48f677c12d830cbfef092c12729523d8171bfefe23e5da046baa"), looks := false }, kinds := [], alts := [], laidByText := true, laidKinds := [.data], laidTests := true, laidLooks := .later }
def UsageRenamedCardSaid : Prop := Claim7.holds Tryd.pinned (.plain (OpenSpec.ofChange usageRenamedSpec)) usageRenamedCard

/-- THE SECOND FORM's CARD OF 'provenancekeep2.CoreOrdered'. -/
def coreOrderedUptoCard : Claim7 := { stood := { row := coreOrderedUptoRow, standIns := [], harness := (true, "07721d9e627b48f677c12d830cbfef092c12729523d8171bfefe23e5da046baa"), looks := false }, kinds := [], alts := [], laidByText := true, laidKinds := [.data], laidTests := true, laidLooks := .later }
def CoreOrderedUptoCardSaid : Prop := Claim7.holds Tryd.pinned (.plain (OpenSpec.upto coreOrderedSpec)) coreOrderedUptoCard

/-- THE SECOND FORM's CARD OF 'provenancekeep2.CoreFreeUp'. -/
def coreFreeUpUptoCard : Claim7 := { stood := { row := coreFreeUpUptoRow, standIns := [], harness := (true, "07721d9e627b48f677c12d830cbfef092c12729523d8171bfefe23e5da046baa"), looks := false }, kinds := [], alts := [], laidByText := true, laidKinds := [.data], laidTests := true, laidLooks := .later }
def CoreFreeUpUptoCardSaid : Prop := Claim7.holds Tryd.pinned (.plain (OpenSpec.upto coreFreeUpSpec)) coreFreeUpUptoCard

/-- THE SECOND FORM's CARD OF 'provenancekeep2.CoreRenewed'. -/
def coreRenewedUptoCard : Claim7 := { stood := { row := coreRenewedUptoRow, standIns := [], harness := (true, "07721d9e627b48f677c12d830cbfef092c12729523d8171bfefe23e5da046baa"), looks := false }, kinds := [], alts := [], laidByText := true, laidKinds := [.data], laidTests := true, laidLooks := .later }
def CoreRenewedUptoCardSaid : Prop := Claim7.holds Tryd.pinned (.plain (OpenSpec.upto coreRenewedSpec)) coreRenewedUptoCard

/-- THE SECOND FORM's CARD OF 'provenancekeep2.CoreCut'. -/
def coreCutUptoCard : Claim7 := { stood := { row := coreCutUptoRow, standIns := [], harness := (true, "07721d9e627b48f677c12d830cbfef092c12729523d8171bfefe23e5da046baa"), looks := false }, kinds := [], alts := [], laidByText := true, laidKinds := [.data], laidTests := true, laidLooks := .later }
def CoreCutUptoCardSaid : Prop := Claim7.holds Tryd.pinned (.plain (OpenSpec.upto coreCutSpec)) coreCutUptoCard

/-- THE SECOND FORM's CARD OF 'provenancekeep2.PurityAbove'. -/
def purityAboveUptoCard : Claim7 := { stood := { row := purityAboveUptoRow, standIns := [], harness := (true, "07721d9e627b48f677c12d830cbfef092c12729523d8171bfefe23e5da046baa"), looks := false }, kinds := [], alts := [], laidByText := true, laidKinds := [.data], laidTests := true, laidLooks := .later }
def PurityAboveUptoCardSaid : Prop := Claim7.holds Tryd.pinned (.plain (OpenSpec.upto purityAboveSpec)) purityAboveUptoCard

/-- THE SECOND FORM's CARD OF 'provenancekeep2.UsageNever'. -/
def usageNeverUptoCard : Claim7 := { stood := { row := usageNeverUptoRow, standIns := [], harness := (true, "07721d9e627b48f677c12d830cbfef092c12729523d8171bfefe23e5da046baa"), looks := false }, kinds := [], alts := [], laidByText := true, laidKinds := [.data], laidTests := true, laidLooks := .later }
def UsageNeverUptoCardSaid : Prop := Claim7.holds Tryd.pinned (.plain (OpenSpec.upto usageNeverSpec)) usageNeverUptoCard

/-- THE SECOND FORM's CARD OF 'provenancekeep2.UsageRenamed'. -/
def usageRenamedUptoCard : Claim7 := { stood := { row := usageRenamedUptoRow, standIns := [], harness := (true, "07721d9e627b48f677c12d830cbfef092c12729523d8171bfefe23e5da046baa"), looks := false }, kinds := [], alts := [], laidByText := true, laidKinds := [.data], laidTests := true, laidLooks := .later }
def UsageRenamedUptoCardSaid : Prop := Claim7.holds Tryd.pinned (.plain (OpenSpec.upto usageRenamedSpec)) usageRenamedUptoCard
end Rows
end Go.Proofs.YtnonkoeknpmcjaaDoor
