/-
  NARROWER THAN 'FOR EVERY INPUT', by the rows' own cells (each row's printed sentence says how): RewriteNone: laid · RewriteAdded: laid · RewriteOrdered: laid · ReplayRenamed: laid · SimplifyStops: laid · InlineNone: laid · PurityDrops: laid · SimplifyParts: laid · ReplaySteps: laid · ReplayPrefix: laid · UsageDrops: laid.
  DERIVED. THE GIVEN ROWS OF THIS SEAT. 11 by the template 'for every input the law returns true; each argument reads behind the call as it read before'; 0 by the template 'total and deterministic' (their statements: YtgdionbeeodaaaaDoorTotals.lean).
  GIVEN WITH THE SEED: the statements are not yours to turn. If you find one false, say at which input.
  Laid BY PROGRAM, IN A SANDBOX (cutbox-rows.mjs): the forced cells as the released guide's own fill.sh prints them over the translation 9b01d77ba35a5277… (all of the seat's roots in one cut). By AI agents, Wed Nov 11 2026. No macro, syntax, notation, axiom, sorry.
-/
import Derived.Test.YtgdionbeeodaaaaDoorChecked
import GoSem.Claim
import GoSem.ClaimJoined
import GoSem.ClaimMapViews
import Derived.JoinedTies
import Derived.KernelRfl
namespace Go.Proofs.YtgdionbeeodaaaaDoor
/- THE CELL 'sum', in the pinned program and in every row, IS THE sha256 OF THE DUMP (.gsa) THAT YtgdionbeeodaaaaDoorProg.lean LOADS. Nothing in Lean hashes anything: it is a label: what it is worth is what the hold of that sum in a sandbox is worth. -/
noncomputable def Tryd.pinned : Pinned := { name := "ytgdionbeeodaaaadoor", sum := "9b01d77ba35a527775b4defddb0f6ae5065b381d79fab9904b0b395d96adf713", checked := Tryd.checked }
namespace Rows
def none {H : Type} : Left H := { results := [], args := [] }

/- WHAT THE LISTED PACKAGE-LEVEL VARIABLES READ AS WHEN THE CALL BEGINS. Each datum BY PROGRAM (the guide's laid-datum.mjs) off the statement by which the dump's own 'gosem.cut.vars' lays the variable. In a bare row this is a premise. The card (YtgdionbeeodaaaaDoorCards.lean) ties it to the program's text. -/
def laid_provenance_core_arity {H : Type} : DataW H := .agg [.lit (.int .i64 2), .lit (.int .i64 2), .lit (.int .i64 2), .lit (.int .i64 2), .lit (.int .i64 2), .lit (.int .i64 2), .lit (.int .i64 2), .lit (.int .i64 1), .lit (.int .i64 2), .lit (.int .i64 1), .lit (.int .i64 2), .lit (.int .i64 3)]
def laid_provenance_rewrite_order {H : Type} : DataW H := .agg [.lit (.int .i64 3), .lit (.int .i64 4), .lit (.int .i64 6), .lit (.int .i64 7), .lit (.int .i64 5), .lit (.int .i64 1), .lit (.int .i64 2), .lit (.int .i64 11), .lit (.int .i64 8), .lit (.int .i64 9)]

/-- 'provenancekeep2.RewriteNone': WHATEVER THE INPUT: true; the input reads as it did. -/
def rewriteNoneSpec : ChangeSpec := { name := "rewriteNone", fn := fun _ => fun
  | [d1, d2, d3] => { results := [.lit (.bool true)], args := [d1, d2, d3] }
  | _ => none }
def rewriteNoneRow : OpenClaim := { program := "ytgdionbeeodaaaadoor", sum := "9b01d77ba35a527775b4defddb0f6ae5065b381d79fab9904b0b395d96adf713", func := "provenance/provenancekeep2.RewriteNone", spec := "rewriteNone", unfollowed := true, recurses := true, named := ["provenance/core.arity"], apart := false, laid := [("provenance/core.arity", laid_provenance_core_arity)] }
def RewriteNoneSaid : Prop := rewriteNoneRow.holds Tryd.pinned (OpenSpec.ofChange rewriteNoneSpec)

/-- ITS FALSE NEIGHBOUR: 'it returns false'. Refute it at one input. -/
def rewriteNoneWrong : ChangeSpec := { name := "rewriteNone", fn := fun _ => fun
  | [d1, d2, d3] => { results := [.lit (.bool false)], args := [d1, d2, d3] }
  | _ => none }
def RewriteNoneWrongFalsely : Prop := rewriteNoneRow.holds Tryd.pinned (OpenSpec.ofChange rewriteNoneWrong)

/-- 'provenancekeep2.RewriteAdded': WHATEVER THE INPUT: true; the input reads as it did. -/
def rewriteAddedSpec : ChangeSpec := { name := "rewriteAdded", fn := fun _ => fun
  | [d1, d2] => { results := [.lit (.bool true)], args := [d1, d2] }
  | _ => none }
def rewriteAddedRow : OpenClaim := { program := "ytgdionbeeodaaaadoor", sum := "9b01d77ba35a527775b4defddb0f6ae5065b381d79fab9904b0b395d96adf713", func := "provenance/provenancekeep2.RewriteAdded", spec := "rewriteAdded", unfollowed := true, recurses := true, named := ["provenance/core.arity"], apart := false, laid := [("provenance/core.arity", laid_provenance_core_arity)] }
def RewriteAddedSaid : Prop := rewriteAddedRow.holds Tryd.pinned (OpenSpec.ofChange rewriteAddedSpec)

/-- ITS FALSE NEIGHBOUR: 'it returns false'. Refute it at one input. -/
def rewriteAddedWrong : ChangeSpec := { name := "rewriteAdded", fn := fun _ => fun
  | [d1, d2] => { results := [.lit (.bool false)], args := [d1, d2] }
  | _ => none }
def RewriteAddedWrongFalsely : Prop := rewriteAddedRow.holds Tryd.pinned (OpenSpec.ofChange rewriteAddedWrong)

/-- 'provenancekeep2.RewriteOrdered': WHATEVER THE INPUT: true; the input reads as it did. -/
def rewriteOrderedSpec : ChangeSpec := { name := "rewriteOrdered", fn := fun _ => fun
  | [d1, d2, d3] => { results := [.lit (.bool true)], args := [d1, d2, d3] }
  | _ => none }
def rewriteOrderedRow : OpenClaim := { program := "ytgdionbeeodaaaadoor", sum := "9b01d77ba35a527775b4defddb0f6ae5065b381d79fab9904b0b395d96adf713", func := "provenance/provenancekeep2.RewriteOrdered", spec := "rewriteOrdered", unfollowed := true, recurses := true, named := ["provenance/core.arity"], apart := false, laid := [("provenance/core.arity", laid_provenance_core_arity)] }
def RewriteOrderedSaid : Prop := rewriteOrderedRow.holds Tryd.pinned (OpenSpec.ofChange rewriteOrderedSpec)

/-- ITS FALSE NEIGHBOUR: 'it returns false'. Refute it at one input. -/
def rewriteOrderedWrong : ChangeSpec := { name := "rewriteOrdered", fn := fun _ => fun
  | [d1, d2, d3] => { results := [.lit (.bool false)], args := [d1, d2, d3] }
  | _ => none }
def RewriteOrderedWrongFalsely : Prop := rewriteOrderedRow.holds Tryd.pinned (OpenSpec.ofChange rewriteOrderedWrong)

/-- 'provenancekeep2.ReplayRenamed': WHATEVER THE INPUT: true; the input reads as it did. -/
def replayRenamedSpec : ChangeSpec := { name := "replayRenamed", fn := fun _ => fun
  | [d1, d2] => { results := [.lit (.bool true)], args := [d1, d2] }
  | _ => none }
def replayRenamedRow : OpenClaim := { program := "ytgdionbeeodaaaadoor", sum := "9b01d77ba35a527775b4defddb0f6ae5065b381d79fab9904b0b395d96adf713", func := "provenance/provenancekeep2.ReplayRenamed", spec := "replayRenamed", unfollowed := true, recurses := true, named := ["provenance/core.arity"], apart := false, laid := [("provenance/core.arity", laid_provenance_core_arity)] }
def ReplayRenamedSaid : Prop := replayRenamedRow.holds Tryd.pinned (OpenSpec.ofChange replayRenamedSpec)

/-- ITS FALSE NEIGHBOUR: 'it returns false'. Refute it at one input. -/
def replayRenamedWrong : ChangeSpec := { name := "replayRenamed", fn := fun _ => fun
  | [d1, d2] => { results := [.lit (.bool false)], args := [d1, d2] }
  | _ => none }
def ReplayRenamedWrongFalsely : Prop := replayRenamedRow.holds Tryd.pinned (OpenSpec.ofChange replayRenamedWrong)

/-- 'provenancekeep2.SimplifyStops': WHATEVER THE INPUT: true; the input reads as it did. -/
def simplifyStopsSpec : ChangeSpec := { name := "simplifyStops", fn := fun _ => fun
  | [d] => { results := [.lit (.bool true)], args := [d] }
  | _ => none }
def simplifyStopsRow : OpenClaim := { program := "ytgdionbeeodaaaadoor", sum := "9b01d77ba35a527775b4defddb0f6ae5065b381d79fab9904b0b395d96adf713", func := "provenance/provenancekeep2.SimplifyStops", spec := "simplifyStops", unfollowed := true, recurses := true, named := ["provenance/core.arity", "provenance/rewrite.order"], apart := false, laid := [("provenance/core.arity", laid_provenance_core_arity), ("provenance/rewrite.order", laid_provenance_rewrite_order)] }
def SimplifyStopsSaid : Prop := simplifyStopsRow.holds Tryd.pinned (OpenSpec.ofChange simplifyStopsSpec)

/-- ITS FALSE NEIGHBOUR: 'it returns false'. Refute it at one input. -/
def simplifyStopsWrong : ChangeSpec := { name := "simplifyStops", fn := fun _ => fun
  | [d] => { results := [.lit (.bool false)], args := [d] }
  | _ => none }
def SimplifyStopsWrongFalsely : Prop := simplifyStopsRow.holds Tryd.pinned (OpenSpec.ofChange simplifyStopsWrong)

/-- 'provenancekeep2.InlineNone': WHATEVER THE INPUT: true; the input reads as it did. -/
def inlineNoneSpec : ChangeSpec := { name := "inlineNone", fn := fun _ => fun
  | [d] => { results := [.lit (.bool true)], args := [d] }
  | _ => none }
def inlineNoneRow : OpenClaim := { program := "ytgdionbeeodaaaadoor", sum := "9b01d77ba35a527775b4defddb0f6ae5065b381d79fab9904b0b395d96adf713", func := "provenance/provenancekeep2.InlineNone", spec := "inlineNone", unfollowed := true, recurses := true, named := ["provenance/core.arity"], apart := false, laid := [("provenance/core.arity", laid_provenance_core_arity)] }
def InlineNoneSaid : Prop := inlineNoneRow.holds Tryd.pinned (OpenSpec.ofChange inlineNoneSpec)

/-- ITS FALSE NEIGHBOUR: 'it returns false'. Refute it at one input. -/
def inlineNoneWrong : ChangeSpec := { name := "inlineNone", fn := fun _ => fun
  | [d] => { results := [.lit (.bool false)], args := [d] }
  | _ => none }
def InlineNoneWrongFalsely : Prop := inlineNoneRow.holds Tryd.pinned (OpenSpec.ofChange inlineNoneWrong)

/-- 'provenancekeep2.PurityDrops': WHATEVER THE INPUT: true; the input reads as it did. -/
def purityDropsSpec : ChangeSpec := { name := "purityDrops", fn := fun _ => fun
  | [d] => { results := [.lit (.bool true)], args := [d] }
  | _ => none }
def purityDropsRow : OpenClaim := { program := "ytgdionbeeodaaaadoor", sum := "9b01d77ba35a527775b4defddb0f6ae5065b381d79fab9904b0b395d96adf713", func := "provenance/provenancekeep2.PurityDrops", spec := "purityDrops", unfollowed := true, recurses := true, named := ["provenance/core.arity"], apart := false, laid := [("provenance/core.arity", laid_provenance_core_arity)] }
def PurityDropsSaid : Prop := purityDropsRow.holds Tryd.pinned (OpenSpec.ofChange purityDropsSpec)

/-- ITS FALSE NEIGHBOUR: 'it returns false'. Refute it at one input. -/
def purityDropsWrong : ChangeSpec := { name := "purityDrops", fn := fun _ => fun
  | [d] => { results := [.lit (.bool false)], args := [d] }
  | _ => none }
def PurityDropsWrongFalsely : Prop := purityDropsRow.holds Tryd.pinned (OpenSpec.ofChange purityDropsWrong)

/-- 'provenancekeep2.SimplifyParts': WHATEVER THE INPUT: true; the input reads as it did. -/
def simplifyPartsSpec : ChangeSpec := { name := "simplifyParts", fn := fun _ => fun
  | [d1, d2, d3] => { results := [.lit (.bool true)], args := [d1, d2, d3] }
  | _ => none }
def simplifyPartsRow : OpenClaim := { program := "ytgdionbeeodaaaadoor", sum := "9b01d77ba35a527775b4defddb0f6ae5065b381d79fab9904b0b395d96adf713", func := "provenance/provenancekeep2.SimplifyParts", spec := "simplifyParts", unfollowed := true, recurses := true, named := ["provenance/core.arity", "provenance/rewrite.order"], apart := false, laid := [("provenance/core.arity", laid_provenance_core_arity), ("provenance/rewrite.order", laid_provenance_rewrite_order)] }
def SimplifyPartsSaid : Prop := simplifyPartsRow.holds Tryd.pinned (OpenSpec.ofChange simplifyPartsSpec)

/-- ITS FALSE NEIGHBOUR: 'it returns false'. Refute it at one input. -/
def simplifyPartsWrong : ChangeSpec := { name := "simplifyParts", fn := fun _ => fun
  | [d1, d2, d3] => { results := [.lit (.bool false)], args := [d1, d2, d3] }
  | _ => none }
def SimplifyPartsWrongFalsely : Prop := simplifyPartsRow.holds Tryd.pinned (OpenSpec.ofChange simplifyPartsWrong)

/-- 'provenancekeep2.ReplaySteps': WHATEVER THE INPUT: true; the input reads as it did. -/
def replayStepsSpec : ChangeSpec := { name := "replaySteps", fn := fun _ => fun
  | [d1, d2] => { results := [.lit (.bool true)], args := [d1, d2] }
  | _ => none }
def replayStepsRow : OpenClaim := { program := "ytgdionbeeodaaaadoor", sum := "9b01d77ba35a527775b4defddb0f6ae5065b381d79fab9904b0b395d96adf713", func := "provenance/provenancekeep2.ReplaySteps", spec := "replaySteps", unfollowed := true, recurses := true, named := ["provenance/core.arity", "provenance/rewrite.order"], apart := false, laid := [("provenance/core.arity", laid_provenance_core_arity), ("provenance/rewrite.order", laid_provenance_rewrite_order)] }
def ReplayStepsSaid : Prop := replayStepsRow.holds Tryd.pinned (OpenSpec.ofChange replayStepsSpec)

/-- ITS FALSE NEIGHBOUR: 'it returns false'. Refute it at one input. -/
def replayStepsWrong : ChangeSpec := { name := "replaySteps", fn := fun _ => fun
  | [d1, d2] => { results := [.lit (.bool false)], args := [d1, d2] }
  | _ => none }
def ReplayStepsWrongFalsely : Prop := replayStepsRow.holds Tryd.pinned (OpenSpec.ofChange replayStepsWrong)

/-- 'provenancekeep2.ReplayPrefix': WHATEVER THE INPUT: true; the input reads as it did. -/
def replayPrefixSpec : ChangeSpec := { name := "replayPrefix", fn := fun _ => fun
  | [d1, d2, d3] => { results := [.lit (.bool true)], args := [d1, d2, d3] }
  | _ => none }
def replayPrefixRow : OpenClaim := { program := "ytgdionbeeodaaaadoor", sum := "9b01d77ba35a527775b4defddb0f6ae5065b381d79fab9904b0b395d96adf713", func := "provenance/provenancekeep2.ReplayPrefix", spec := "replayPrefix", unfollowed := true, recurses := true, named := ["provenance/core.arity", "provenance/rewrite.order"], apart := false, laid := [("provenance/core.arity", laid_provenance_core_arity), ("provenance/rewrite.order", laid_provenance_rewrite_order)] }
def ReplayPrefixSaid : Prop := replayPrefixRow.holds Tryd.pinned (OpenSpec.ofChange replayPrefixSpec)

/-- ITS FALSE NEIGHBOUR: 'it returns false'. Refute it at one input. -/
def replayPrefixWrong : ChangeSpec := { name := "replayPrefix", fn := fun _ => fun
  | [d1, d2, d3] => { results := [.lit (.bool false)], args := [d1, d2, d3] }
  | _ => none }
def ReplayPrefixWrongFalsely : Prop := replayPrefixRow.holds Tryd.pinned (OpenSpec.ofChange replayPrefixWrong)

/-- 'provenancekeep2.UsageDrops': WHATEVER THE INPUT: true; the input reads as it did. -/
def usageDropsSpec : ChangeSpec := { name := "usageDrops", fn := fun _ => fun
  | [d] => { results := [.lit (.bool true)], args := [d] }
  | _ => none }
def usageDropsRow : OpenClaim := { program := "ytgdionbeeodaaaadoor", sum := "9b01d77ba35a527775b4defddb0f6ae5065b381d79fab9904b0b395d96adf713", func := "provenance/provenancekeep2.UsageDrops", spec := "usageDrops", unfollowed := true, recurses := true, named := ["provenance/core.arity"], apart := false, laid := [("provenance/core.arity", laid_provenance_core_arity)] }
def UsageDropsSaid : Prop := usageDropsRow.holds Tryd.pinned (OpenSpec.ofChange usageDropsSpec)

/-- ITS FALSE NEIGHBOUR: 'it returns false'. Refute it at one input. -/
def usageDropsWrong : ChangeSpec := { name := "usageDrops", fn := fun _ => fun
  | [d] => { results := [.lit (.bool false)], args := [d] }
  | _ => none }
def UsageDropsWrongFalsely : Prop := usageDropsRow.holds Tryd.pinned (OpenSpec.ofChange usageDropsWrong)

/- THE SECOND FORM. 'bulk': how many values and letters a reading holds, each counted each time it is reached (what is shared counts as often as it is met; a slice's spare places count too). A statement '..UptoSaid' is the law's where the arguments, and the package variables that the reading takes, are together of bulk at most 1048576: NARROWER than '..Said'. Prove '..Said' where nothing that the law and all that it calls make is longer than what came in: it says more and counts as full. Else prove '..UptoSaid'. A law counts once. -/
mutual
def uptoBulk {H : Type} : DataW H → Nat
  | .lit (.string bytes) => bytes.length + 1
  | .lit _ => 1
  | .nil => 1
  | .ptr d => uptoBulk d + 1
  | .slice elems spare => uptoBulkAll elems + uptoBulkAll spare + 1
  | .agg parts => uptoBulkAll parts + 1
  | .iface _ d => uptoBulk d + 1
  | .map entries => uptoBulkEntries entries + 1
  | .held _ => 1
def uptoBulkAll {H : Type} : List (DataW H) → Nat
  | [] => 0
  | d :: r => uptoBulk d + uptoBulkAll r
def uptoBulkEntries {H : Type} : List (Lit × DataW H) → Nat
  | [] => 0
  | x :: r => uptoBulkEntry x + uptoBulkEntries r
def uptoBulkEntry {H : Type} : Lit × DataW H → Nat
  | (.string bytes, d) => bytes.length + uptoBulk d + 1
  | (_, d) => uptoBulk d + 1
 end
def uptoSmall : (H : Type) → List (DataW H) → Bool := fun _ ds => decide (uptoBulkAll ds ≤ 1048576)
def OpenSpec.upto (s : _root_.Go.ChangeSpec) : _root_.Go.OpenSpec := { _root_.Go.OpenSpec.ofChange s with cond := some uptoSmall }

/-- 'provenancekeep2.RewriteNone', WHERE WHAT IT READS IS OF BULK AT MOST 1048576: true; the input reads as it did. -/
def rewriteNoneUptoRow : OpenClaim := { program := "ytgdionbeeodaaaadoor", sum := "9b01d77ba35a527775b4defddb0f6ae5065b381d79fab9904b0b395d96adf713", func := "provenance/provenancekeep2.RewriteNone", spec := "rewriteNone", unfollowed := true, recurses := true, named := ["provenance/core.arity"], apart := false, laid := [("provenance/core.arity", laid_provenance_core_arity)], narrowed := true }
def RewriteNoneUptoSaid : Prop := rewriteNoneUptoRow.holds Tryd.pinned (OpenSpec.upto rewriteNoneSpec)

/-- 'provenancekeep2.RewriteAdded', WHERE WHAT IT READS IS OF BULK AT MOST 1048576: true; the input reads as it did. -/
def rewriteAddedUptoRow : OpenClaim := { program := "ytgdionbeeodaaaadoor", sum := "9b01d77ba35a527775b4defddb0f6ae5065b381d79fab9904b0b395d96adf713", func := "provenance/provenancekeep2.RewriteAdded", spec := "rewriteAdded", unfollowed := true, recurses := true, named := ["provenance/core.arity"], apart := false, laid := [("provenance/core.arity", laid_provenance_core_arity)], narrowed := true }
def RewriteAddedUptoSaid : Prop := rewriteAddedUptoRow.holds Tryd.pinned (OpenSpec.upto rewriteAddedSpec)

/-- 'provenancekeep2.RewriteOrdered', WHERE WHAT IT READS IS OF BULK AT MOST 1048576: true; the input reads as it did. -/
def rewriteOrderedUptoRow : OpenClaim := { program := "ytgdionbeeodaaaadoor", sum := "9b01d77ba35a527775b4defddb0f6ae5065b381d79fab9904b0b395d96adf713", func := "provenance/provenancekeep2.RewriteOrdered", spec := "rewriteOrdered", unfollowed := true, recurses := true, named := ["provenance/core.arity"], apart := false, laid := [("provenance/core.arity", laid_provenance_core_arity)], narrowed := true }
def RewriteOrderedUptoSaid : Prop := rewriteOrderedUptoRow.holds Tryd.pinned (OpenSpec.upto rewriteOrderedSpec)

/-- 'provenancekeep2.ReplayRenamed', WHERE WHAT IT READS IS OF BULK AT MOST 1048576: true; the input reads as it did. -/
def replayRenamedUptoRow : OpenClaim := { program := "ytgdionbeeodaaaadoor", sum := "9b01d77ba35a527775b4defddb0f6ae5065b381d79fab9904b0b395d96adf713", func := "provenance/provenancekeep2.ReplayRenamed", spec := "replayRenamed", unfollowed := true, recurses := true, named := ["provenance/core.arity"], apart := false, laid := [("provenance/core.arity", laid_provenance_core_arity)], narrowed := true }
def ReplayRenamedUptoSaid : Prop := replayRenamedUptoRow.holds Tryd.pinned (OpenSpec.upto replayRenamedSpec)

/-- 'provenancekeep2.SimplifyStops', WHERE WHAT IT READS IS OF BULK AT MOST 1048576: true; the input reads as it did. -/
def simplifyStopsUptoRow : OpenClaim := { program := "ytgdionbeeodaaaadoor", sum := "9b01d77ba35a527775b4defddb0f6ae5065b381d79fab9904b0b395d96adf713", func := "provenance/provenancekeep2.SimplifyStops", spec := "simplifyStops", unfollowed := true, recurses := true, named := ["provenance/core.arity", "provenance/rewrite.order"], apart := false, laid := [("provenance/core.arity", laid_provenance_core_arity), ("provenance/rewrite.order", laid_provenance_rewrite_order)], narrowed := true }
def SimplifyStopsUptoSaid : Prop := simplifyStopsUptoRow.holds Tryd.pinned (OpenSpec.upto simplifyStopsSpec)

/-- 'provenancekeep2.InlineNone', WHERE WHAT IT READS IS OF BULK AT MOST 1048576: true; the input reads as it did. -/
def inlineNoneUptoRow : OpenClaim := { program := "ytgdionbeeodaaaadoor", sum := "9b01d77ba35a527775b4defddb0f6ae5065b381d79fab9904b0b395d96adf713", func := "provenance/provenancekeep2.InlineNone", spec := "inlineNone", unfollowed := true, recurses := true, named := ["provenance/core.arity"], apart := false, laid := [("provenance/core.arity", laid_provenance_core_arity)], narrowed := true }
def InlineNoneUptoSaid : Prop := inlineNoneUptoRow.holds Tryd.pinned (OpenSpec.upto inlineNoneSpec)

/-- 'provenancekeep2.PurityDrops', WHERE WHAT IT READS IS OF BULK AT MOST 1048576: true; the input reads as it did. -/
def purityDropsUptoRow : OpenClaim := { program := "ytgdionbeeodaaaadoor", sum := "9b01d77ba35a527775b4defddb0f6ae5065b381d79fab9904b0b395d96adf713", func := "provenance/provenancekeep2.PurityDrops", spec := "purityDrops", unfollowed := true, recurses := true, named := ["provenance/core.arity"], apart := false, laid := [("provenance/core.arity", laid_provenance_core_arity)], narrowed := true }
def PurityDropsUptoSaid : Prop := purityDropsUptoRow.holds Tryd.pinned (OpenSpec.upto purityDropsSpec)

/-- 'provenancekeep2.SimplifyParts', WHERE WHAT IT READS IS OF BULK AT MOST 1048576: true; the input reads as it did. -/
def simplifyPartsUptoRow : OpenClaim := { program := "ytgdionbeeodaaaadoor", sum := "9b01d77ba35a527775b4defddb0f6ae5065b381d79fab9904b0b395d96adf713", func := "provenance/provenancekeep2.SimplifyParts", spec := "simplifyParts", unfollowed := true, recurses := true, named := ["provenance/core.arity", "provenance/rewrite.order"], apart := false, laid := [("provenance/core.arity", laid_provenance_core_arity), ("provenance/rewrite.order", laid_provenance_rewrite_order)], narrowed := true }
def SimplifyPartsUptoSaid : Prop := simplifyPartsUptoRow.holds Tryd.pinned (OpenSpec.upto simplifyPartsSpec)

/-- 'provenancekeep2.ReplaySteps', WHERE WHAT IT READS IS OF BULK AT MOST 1048576: true; the input reads as it did. -/
def replayStepsUptoRow : OpenClaim := { program := "ytgdionbeeodaaaadoor", sum := "9b01d77ba35a527775b4defddb0f6ae5065b381d79fab9904b0b395d96adf713", func := "provenance/provenancekeep2.ReplaySteps", spec := "replaySteps", unfollowed := true, recurses := true, named := ["provenance/core.arity", "provenance/rewrite.order"], apart := false, laid := [("provenance/core.arity", laid_provenance_core_arity), ("provenance/rewrite.order", laid_provenance_rewrite_order)], narrowed := true }
def ReplayStepsUptoSaid : Prop := replayStepsUptoRow.holds Tryd.pinned (OpenSpec.upto replayStepsSpec)

/-- 'provenancekeep2.ReplayPrefix', WHERE WHAT IT READS IS OF BULK AT MOST 1048576: true; the input reads as it did. -/
def replayPrefixUptoRow : OpenClaim := { program := "ytgdionbeeodaaaadoor", sum := "9b01d77ba35a527775b4defddb0f6ae5065b381d79fab9904b0b395d96adf713", func := "provenance/provenancekeep2.ReplayPrefix", spec := "replayPrefix", unfollowed := true, recurses := true, named := ["provenance/core.arity", "provenance/rewrite.order"], apart := false, laid := [("provenance/core.arity", laid_provenance_core_arity), ("provenance/rewrite.order", laid_provenance_rewrite_order)], narrowed := true }
def ReplayPrefixUptoSaid : Prop := replayPrefixUptoRow.holds Tryd.pinned (OpenSpec.upto replayPrefixSpec)

/-- 'provenancekeep2.UsageDrops', WHERE WHAT IT READS IS OF BULK AT MOST 1048576: true; the input reads as it did. -/
def usageDropsUptoRow : OpenClaim := { program := "ytgdionbeeodaaaadoor", sum := "9b01d77ba35a527775b4defddb0f6ae5065b381d79fab9904b0b395d96adf713", func := "provenance/provenancekeep2.UsageDrops", spec := "usageDrops", unfollowed := true, recurses := true, named := ["provenance/core.arity"], apart := false, laid := [("provenance/core.arity", laid_provenance_core_arity)], narrowed := true }
def UsageDropsUptoSaid : Prop := usageDropsUptoRow.holds Tryd.pinned (OpenSpec.upto usageDropsSpec)

end Rows
end Go.Proofs.YtgdionbeeodaaaaDoor
