/-
  DERIVED. GIVEN WITH THE SEED: THE CARDS: each row of YtgdionbeeodaaaaDoorRows.lean that lists a variable, with what it lists TIED to the program's text (the seventh form; the later family's looks); each row that meets fmt, with fmt's text TOLD by the authors' own Lean function (tested against real Go, not proved from fmt's source: count such statements apart). THE CARD IS WHAT COUNTS. Prove the row's statement (the work); the ties are given (YtgdionbeeodaaaaDoorTie.lean); close each card by the builder's one call (the guide's Derived/Test/ToyasCard.lean, 'card_holds'). Laid BY PROGRAM, IN A SANDBOX (cutbox-door.mjs). By AI agents, Wed Nov 11 2026. No macro, syntax, notation, axiom, sorry.
-/
import Derived.Test.YtgdionbeeodaaaaDoorRows
import GoSem.ClaimSeven
namespace Go.Proofs.YtgdionbeeodaaaaDoor
namespace Rows

/-- THE TIED CARD OF 'provenancekeep2.RewriteNone'. -/
def rewriteNoneCard : Claim7 := { stood := { row := rewriteNoneRow, standIns := [], harness := (true, "ac534c224786bc8dedaf943098aa3ac11da532d7e8033621166d7de746504e83"), looks := false }, kinds := [], alts := [], laidByText := true, laidKinds := [.data], laidTests := true, laidLooks := .later }
def RewriteNoneCardSaid : Prop := Claim7.holds Tryd.pinned (.plain (OpenSpec.ofChange rewriteNoneSpec)) rewriteNoneCard

/-- THE TIED CARD OF 'provenancekeep2.RewriteAdded'. -/
def rewriteAddedCard : Claim7 := { stood := { row := rewriteAddedRow, standIns := [], harness := (true, "ac534c224786bc8dedaf943098aa3ac11da532d7e8033621166d7de746504e83"), looks := false }, kinds := [], alts := [], laidByText := true, laidKinds := [.data], laidTests := true, laidLooks := .later }
def RewriteAddedCardSaid : Prop := Claim7.holds Tryd.pinned (.plain (OpenSpec.ofChange rewriteAddedSpec)) rewriteAddedCard

/-- THE TIED CARD OF 'provenancekeep2.RewriteOrdered'. -/
def rewriteOrderedCard : Claim7 := { stood := { row := rewriteOrderedRow, standIns := [], harness := (true, "ac534c224786bc8dedaf943098aa3ac11da532d7e8033621166d7de746504e83"), looks := false }, kinds := [], alts := [], laidByText := true, laidKinds := [.data], laidTests := true, laidLooks := .later }
def RewriteOrderedCardSaid : Prop := Claim7.holds Tryd.pinned (.plain (OpenSpec.ofChange rewriteOrderedSpec)) rewriteOrderedCard

/-- THE TIED CARD OF 'provenancekeep2.ReplayRenamed'. -/
def replayRenamedCard : Claim7 := { stood := { row := replayRenamedRow, standIns := [], harness := (true, "ac534c224786bc8dedaf943098aa3ac11da532d7e8033621166d7de746504e83"), looks := false }, kinds := [], alts := [], laidByText := true, laidKinds := [.data], laidTests := true, laidLooks := .later }
def ReplayRenamedCardSaid : Prop := Claim7.holds Tryd.pinned (.plain (OpenSpec.ofChange replayRenamedSpec)) replayRenamedCard

/-- THE TIED CARD OF 'provenancekeep2.SimplifyStops'. -/
def simplifyStopsCard : Claim7 := { stood := { row := simplifyStopsRow, standIns := [], harness := (true, "ac534c224786bc8dedaf943098aa3ac11da532d7e8033621166d7de746504e83"), looks := false }, kinds := [], alts := [], laidByText := true, laidKinds := [.data, .data], laidTests := true, laidLooks := .later }
def SimplifyStopsCardSaid : Prop := Claim7.holds Tryd.pinned (.plain (OpenSpec.ofChange simplifyStopsSpec)) simplifyStopsCard

/-- THE TIED CARD OF 'provenancekeep2.InlineNone'. -/
def inlineNoneCard : Claim7 := { stood := { row := inlineNoneRow, standIns := [], harness := (true, "ac534c224786bc8dedaf943098aa3ac11da532d7e8033621166d7de746504e83"), looks := false }, kinds := [], alts := [], laidByText := true, laidKinds := [.data], laidTests := true, laidLooks := .later }
def InlineNoneCardSaid : Prop := Claim7.holds Tryd.pinned (.plain (OpenSpec.ofChange inlineNoneSpec)) inlineNoneCard

/-- THE TIED CARD OF 'provenancekeep2.PurityDrops'. -/
def purityDropsCard : Claim7 := { stood := { row := purityDropsRow, standIns := [], harness := (true, "ac534c224786bc8dedaf943098aa3ac11da532d7e8033621166d7de746504e83"), looks := false }, kinds := [], alts := [], laidByText := true, laidKinds := [.data], laidTests := true, laidLooks := .later }
def PurityDropsCardSaid : Prop := Claim7.holds Tryd.pinned (.plain (OpenSpec.ofChange purityDropsSpec)) purityDropsCard

/-- THE TIED CARD OF 'provenancekeep2.SimplifyParts'. -/
def simplifyPartsCard : Claim7 := { stood := { row := simplifyPartsRow, standIns := [], harness := (true, "ac534c224786bc8dedaf943098aa3ac11da532d7e8033621166d7de746504e83"), looks := false }, kinds := [], alts := [], laidByText := true, laidKinds := [.data, .data], laidTests := true, laidLooks := .later }
def SimplifyPartsCardSaid : Prop := Claim7.holds Tryd.pinned (.plain (OpenSpec.ofChange simplifyPartsSpec)) simplifyPartsCard

/-- THE TIED CARD OF 'provenancekeep2.ReplaySteps'. -/
def replayStepsCard : Claim7 := { stood := { row := replayStepsRow, standIns := [], harness := (true, "ac534c224786bc8dedaf943098aa3ac11da532d7e8033621166d7de746504e83"), looks := false }, kinds := [], alts := [], laidByText := true, laidKinds := [.data, .data], laidTests := true, laidLooks := .later }
def ReplayStepsCardSaid : Prop := Claim7.holds Tryd.pinned (.plain (OpenSpec.ofChange replayStepsSpec)) replayStepsCard

/-- THE TIED CARD OF 'provenancekeep2.ReplayPrefix'. -/
def replayPrefixCard : Claim7 := { stood := { row := replayPrefixRow, standIns := [], harness := (true, "ac534c224786bc8dedaf943098aa3ac11da532d7e8033621166d7de746504e83"), looks := false }, kinds := [], alts := [], laidByText := true, laidKinds := [.data, .data], laidTests := true, laidLooks := .later }
def ReplayPrefixCardSaid : Prop := Claim7.holds Tryd.pinned (.plain (OpenSpec.ofChange replayPrefixSpec)) replayPrefixCard

/-- THE TIED CARD OF 'provenancekeep2.UsageDrops'. -/
def usageDropsCard : Claim7 := { stood := { row := usageDropsRow, standIns := [], harness := (true, "ac534c224786bc8dedaf943098aa3ac11da532d7e8033621166d7de746504e83"), looks := false }, kinds := [], alts := [], laidByText := true, laidKinds := [.data], laidTests := true, laidLooks := .later }
def UsageDropsCardSaid : Prop := Claim7.holds Tryd.pinned (.plain (OpenSpec.ofChange usageDropsSpec)) usageDropsCard

/-- THE SECOND FORM's CARD OF 'provenancekeep2.RewriteNone'. -/
def rewriteNoneUptoCard : Claim7 := { stood := { row := rewriteNoneUptoRow, standIns := [], harness := (true, "ac534c224786bc8dedaf943098aa3ac11da532d7e8033621166d7de746504e83"), looks := false }, kinds := [], alts := [], laidByText := true, laidKinds := [.data], laidTests := true, laidLooks := .later }
def RewriteNoneUptoCardSaid : Prop := Claim7.holds Tryd.pinned (.plain (OpenSpec.upto rewriteNoneSpec)) rewriteNoneUptoCard

/-- THE SECOND FORM's CARD OF 'provenancekeep2.RewriteAdded'. -/
def rewriteAddedUptoCard : Claim7 := { stood := { row := rewriteAddedUptoRow, standIns := [], harness := (true, "ac534c224786bc8dedaf943098aa3ac11da532d7e8033621166d7de746504e83"), looks := false }, kinds := [], alts := [], laidByText := true, laidKinds := [.data], laidTests := true, laidLooks := .later }
def RewriteAddedUptoCardSaid : Prop := Claim7.holds Tryd.pinned (.plain (OpenSpec.upto rewriteAddedSpec)) rewriteAddedUptoCard

/-- THE SECOND FORM's CARD OF 'provenancekeep2.RewriteOrdered'. -/
def rewriteOrderedUptoCard : Claim7 := { stood := { row := rewriteOrderedUptoRow, standIns := [], harness := (true, "ac534c224786bc8dedaf943098aa3ac11da532d7e8033621166d7de746504e83"), looks := false }, kinds := [], alts := [], laidByText := true, laidKinds := [.data], laidTests := true, laidLooks := .later }
def RewriteOrderedUptoCardSaid : Prop := Claim7.holds Tryd.pinned (.plain (OpenSpec.upto rewriteOrderedSpec)) rewriteOrderedUptoCard

/-- THE SECOND FORM's CARD OF 'provenancekeep2.ReplayRenamed'. -/
def replayRenamedUptoCard : Claim7 := { stood := { row := replayRenamedUptoRow, standIns := [], harness := (true, "ac534c224786bc8dedaf943098aa3ac11da532d7e8033621166d7de746504e83"), looks := false }, kinds := [], alts := [], laidByText := true, laidKinds := [.data], laidTests := true, laidLooks := .later }
def ReplayRenamedUptoCardSaid : Prop := Claim7.holds Tryd.pinned (.plain (OpenSpec.upto replayRenamedSpec)) replayRenamedUptoCard

/-- THE SECOND FORM's CARD OF 'provenancekeep2.SimplifyStops'. -/
def simplifyStopsUptoCard : Claim7 := { stood := { row := simplifyStopsUptoRow, standIns := [], harness := (true, "ac534c224786bc8dedaf943098aa3ac11da532d7e8033621166d7de746504e83"), looks := false }, kinds := [], alts := [], laidByText := true, laidKinds := [.data, .data], laidTests := true, laidLooks := .later }
def SimplifyStopsUptoCardSaid : Prop := Claim7.holds Tryd.pinned (.plain (OpenSpec.upto simplifyStopsSpec)) simplifyStopsUptoCard

/-- THE SECOND FORM's CARD OF 'provenancekeep2.InlineNone'. -/
def inlineNoneUptoCard : Claim7 := { stood := { row := inlineNoneUptoRow, standIns := [], harness := (true, "ac534c224786bc8dedaf943098aa3ac11da532d7e8033621166d7de746504e83"), looks := false }, kinds := [], alts := [], laidByText := true, laidKinds := [.data], laidTests := true, laidLooks := .later }
def InlineNoneUptoCardSaid : Prop := Claim7.holds Tryd.pinned (.plain (OpenSpec.upto inlineNoneSpec)) inlineNoneUptoCard

/-- THE SECOND FORM's CARD OF 'provenancekeep2.PurityDrops'. -/
def purityDropsUptoCard : Claim7 := { stood := { row := purityDropsUptoRow, standIns := [], harness := (true, "ac534c224786bc8dedaf943098aa3ac11da532d7e8033621166d7de746504e83"), looks := false }, kinds := [], alts := [], laidByText := true, laidKinds := [.data], laidTests := true, laidLooks := .later }
def PurityDropsUptoCardSaid : Prop := Claim7.holds Tryd.pinned (.plain (OpenSpec.upto purityDropsSpec)) purityDropsUptoCard

/-- THE SECOND FORM's CARD OF 'provenancekeep2.SimplifyParts'. -/
def simplifyPartsUptoCard : Claim7 := { stood := { row := simplifyPartsUptoRow, standIns := [], harness := (true, "ac534c224786bc8dedaf943098aa3ac11da532d7e8033621166d7de746504e83"), looks := false }, kinds := [], alts := [], laidByText := true, laidKinds := [.data, .data], laidTests := true, laidLooks := .later }
def SimplifyPartsUptoCardSaid : Prop := Claim7.holds Tryd.pinned (.plain (OpenSpec.upto simplifyPartsSpec)) simplifyPartsUptoCard

/-- THE SECOND FORM's CARD OF 'provenancekeep2.ReplaySteps'. -/
def replayStepsUptoCard : Claim7 := { stood := { row := replayStepsUptoRow, standIns := [], harness := (true, "ac534c224786bc8dedaf943098aa3ac11da532d7e8033621166d7de746504e83"), looks := false }, kinds := [], alts := [], laidByText := true, laidKinds := [.data, .data], laidTests := true, laidLooks := .later }
def ReplayStepsUptoCardSaid : Prop := Claim7.holds Tryd.pinned (.plain (OpenSpec.upto replayStepsSpec)) replayStepsUptoCard

/-- THE SECOND FORM's CARD OF 'provenancekeep2.ReplayPrefix'. -/
def replayPrefixUptoCard : Claim7 := { stood := { row := replayPrefixUptoRow, standIns := [], harness := (true, "ac534c224786bc8dedaf943098aa3ac11da532d7e8033621166d7de746504e83"), looks := false }, kinds := [], alts := [], laidByText := true, laidKinds := [.data, .data], laidTests := true, laidLooks := .later }
def ReplayPrefixUptoCardSaid : Prop := Claim7.holds Tryd.pinned (.plain (OpenSpec.upto replayPrefixSpec)) replayPrefixUptoCard

/-- THE SECOND FORM's CARD OF 'provenancekeep2.UsageDrops'. -/
def usageDropsUptoCard : Claim7 := { stood := { row := usageDropsUptoRow, standIns := [], harness := (true, "ac534c224786bc8dedaf943098aa3ac11da532d7e8033621166d7de746504e83"), looks := false }, kinds := [], alts := [], laidByText := true, laidKinds := [.data], laidTests := true, laidLooks := .later }
def UsageDropsUptoCardSaid : Prop := Claim7.holds Tryd.pinned (.plain (OpenSpec.upto usageDropsSpec)) usageDropsUptoCard
end Rows
end Go.Proofs.YtgdionbeeodaaaaDoor
