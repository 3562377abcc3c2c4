/-
  NARROWER THAN 'FOR EVERY INPUT', by the rows' own cells (each row's printed sentence says how): FlatFuel: laid · FlatCore: laid · CloseKeeps: laid · LowerNames: laid.
  DERIVED. THE GIVEN ROWS OF THIS SEAT. 4 by the template 'for every input the law returns true; each argument reads behind the call as it read before'; 0 by the template 'total and deterministic' (their statements: YtkgjldchcbfpnaaGreatDoorTotals.lean).
  GIVEN WITH THE SEED: the statements are not yours to turn. If you find one false, say at which input.
  Laid BY PROGRAM, IN A SANDBOX (cutbox-rows.mjs): the forced cells as the released guide's own fill.sh prints them over the translation 91f1f93d64dde0ca… (all of the seat's roots in one cut). By AI agents, Wed Nov 11 2026. No macro, syntax, notation, axiom, sorry.
-/
import Derived.Test.YtkgjldchcbfpnaaGreatDoorChecked
import GoSem.Claim
import GoSem.ClaimJoined
import GoSem.ClaimMapViews
import Derived.JoinedTies
import Derived.KernelRfl
namespace Go.Proofs.YtkgjldchcbfpnaaGreatDoor
/- THE CELL 'sum', in the pinned program and in every row, IS THE sha256 OF THE DUMP (.gsa) THAT YtkgjldchcbfpnaaGreatDoorProg.lean LOADS. Nothing in Lean hashes anything: it is a label: what it is worth is what the hold of that sum in a sandbox is worth. -/
noncomputable def Tryz.pinned : Pinned := { name := "ytkgjldchcbfpnaagreatdoor", sum := "91f1f93d64dde0ca5fc68c0da81e5d9a011ea43a707635114193c5587a4ba507", checked := Tryz.checked }
namespace Rows
def none {H : Type} : Left H := { results := [], args := [] }

/- WHAT THE LISTED PACKAGE-LEVEL VARIABLES READ AS WHEN THE CALL BEGINS. Each datum BY PROGRAM (the guide's laid-datum.mjs) off the statement by which the dump's own 'gosem.cut.vars' lays the variable. In a bare row this is a premise. The card (YtkgjldchcbfpnaaGreatDoorCards.lean) ties it to the program's text. -/
def laid_provenance_core_arity {H : Type} : DataW H := .agg [.lit (.int .i64 2), .lit (.int .i64 2), .lit (.int .i64 2), .lit (.int .i64 2), .lit (.int .i64 2), .lit (.int .i64 2), .lit (.int .i64 2), .lit (.int .i64 1), .lit (.int .i64 2), .lit (.int .i64 1), .lit (.int .i64 2), .lit (.int .i64 3)]
def laid_provenance_lower_plain {H : Type} : DataW H := .agg [.lit (.int .i64 1), .lit (.int .i64 2), .lit (.int .i64 3), .lit (.int .i64 4), .lit (.int .i64 5), .lit (.int .i64 6), .lit (.int .i64 7)]

/-- 'provenancekeep2.FlatFuel': WHATEVER THE INPUT: true; the input reads as it did. -/
def flatFuelSpec : ChangeSpec := { name := "flatFuel", fn := fun _ => fun
  | [d] => { results := [.lit (.bool true)], args := [d] }
  | _ => none }
def flatFuelRow : OpenClaim := { program := "ytkgjldchcbfpnaagreatdoor", sum := "91f1f93d64dde0ca5fc68c0da81e5d9a011ea43a707635114193c5587a4ba507", func := "provenance/provenancekeep2.FlatFuel", spec := "flatFuel", inPlace := ["slices.overlaps[int]", "slices.overlaps[provenance/eval.value]"], unfollowed := true, recurses := true, named := ["provenance/core.arity"], apart := false, laid := [("provenance/core.arity", laid_provenance_core_arity)] }
def FlatFuelSaid : Prop := flatFuelRow.holds Tryz.pinned (OpenSpec.ofChange flatFuelSpec)

/-- ITS FALSE NEIGHBOUR: 'it returns false'. Refute it at one input. -/
def flatFuelWrong : ChangeSpec := { name := "flatFuel", fn := fun _ => fun
  | [d] => { results := [.lit (.bool false)], args := [d] }
  | _ => none }
def FlatFuelWrongFalsely : Prop := flatFuelRow.holds Tryz.pinned (OpenSpec.ofChange flatFuelWrong)

/-- 'provenancekeep2.FlatCore': WHATEVER THE INPUT: true; the input reads as it did. -/
def flatCoreSpec : ChangeSpec := { name := "flatCore", fn := fun _ => fun
  | [d] => { results := [.lit (.bool true)], args := [d] }
  | _ => none }
def flatCoreRow : OpenClaim := { program := "ytkgjldchcbfpnaagreatdoor", sum := "91f1f93d64dde0ca5fc68c0da81e5d9a011ea43a707635114193c5587a4ba507", func := "provenance/provenancekeep2.FlatCore", spec := "flatCore", inPlace := ["slices.overlaps[int]", "slices.overlaps[provenance/eval.value]"], unfollowed := true, recurses := true, named := ["provenance/core.arity"], apart := false, laid := [("provenance/core.arity", laid_provenance_core_arity)] }
def FlatCoreSaid : Prop := flatCoreRow.holds Tryz.pinned (OpenSpec.ofChange flatCoreSpec)

/-- ITS FALSE NEIGHBOUR: 'it returns false'. Refute it at one input. -/
def flatCoreWrong : ChangeSpec := { name := "flatCore", fn := fun _ => fun
  | [d] => { results := [.lit (.bool false)], args := [d] }
  | _ => none }
def FlatCoreWrongFalsely : Prop := flatCoreRow.holds Tryz.pinned (OpenSpec.ofChange flatCoreWrong)

/-- 'provenancekeep2.CloseKeeps': WHATEVER THE INPUT: true; the input reads as it did. -/
def closeKeepsSpec : ChangeSpec := { name := "closeKeeps", fn := fun _ => fun
  | [d] => { results := [.lit (.bool true)], args := [d] }
  | _ => none }
def closeKeepsRow : OpenClaim := { program := "ytkgjldchcbfpnaagreatdoor", sum := "91f1f93d64dde0ca5fc68c0da81e5d9a011ea43a707635114193c5587a4ba507", func := "provenance/provenancekeep2.CloseKeeps", spec := "closeKeeps", inPlace := ["slices.overlaps[int]", "slices.overlaps[provenance/eval.value]"], unfollowed := true, recurses := true, named := ["provenance/core.arity"], apart := false, laid := [("provenance/core.arity", laid_provenance_core_arity)] }
def CloseKeepsSaid : Prop := closeKeepsRow.holds Tryz.pinned (OpenSpec.ofChange closeKeepsSpec)

/-- ITS FALSE NEIGHBOUR: 'it returns false'. Refute it at one input. -/
def closeKeepsWrong : ChangeSpec := { name := "closeKeeps", fn := fun _ => fun
  | [d] => { results := [.lit (.bool false)], args := [d] }
  | _ => none }
def CloseKeepsWrongFalsely : Prop := closeKeepsRow.holds Tryz.pinned (OpenSpec.ofChange closeKeepsWrong)

/-- 'provenancekeep2.LowerNames': WHATEVER THE INPUT: true; the input reads as it did. -/
def lowerNamesSpec : ChangeSpec := { name := "lowerNames", fn := fun _ => fun
  | [d] => { results := [.lit (.bool true)], args := [d] }
  | _ => none }
def lowerNamesRow : OpenClaim := { program := "ytkgjldchcbfpnaagreatdoor", sum := "91f1f93d64dde0ca5fc68c0da81e5d9a011ea43a707635114193c5587a4ba507", func := "provenance/provenancekeep2.LowerNames", spec := "lowerNames", unfollowed := true, recurses := true, named := ["provenance/core.arity", "provenance/lower.plain"], apart := false, laid := [("provenance/core.arity", laid_provenance_core_arity), ("provenance/lower.plain", laid_provenance_lower_plain)] }
def LowerNamesSaid : Prop := lowerNamesRow.holds Tryz.pinned (OpenSpec.ofChange lowerNamesSpec)

/-- ITS FALSE NEIGHBOUR: 'it returns false'. Refute it at one input. -/
def lowerNamesWrong : ChangeSpec := { name := "lowerNames", fn := fun _ => fun
  | [d] => { results := [.lit (.bool false)], args := [d] }
  | _ => none }
def LowerNamesWrongFalsely : Prop := lowerNamesRow.holds Tryz.pinned (OpenSpec.ofChange lowerNamesWrong)

/- THE SECOND FORM. 'bulk': how many values and letters a reading holds, each counted each time it is reached (what is shared counts as often as it is met; a slice's spare places count too). A statement '..UptoSaid' is the law's where the arguments, and the package variables that the reading takes, are together of bulk at most 1048576: NARROWER than '..Said'. Prove '..Said' where nothing that the law and all that it calls make is longer than what came in: it says more and counts as full. Else prove '..UptoSaid'. A law counts once. -/
mutual
def uptoBulk {H : Type} : DataW H → Nat
  | .lit (.string bytes) => bytes.length + 1
  | .lit _ => 1
  | .nil => 1
  | .ptr d => uptoBulk d + 1
  | .slice elems spare => uptoBulkAll elems + uptoBulkAll spare + 1
  | .agg parts => uptoBulkAll parts + 1
  | .iface _ d => uptoBulk d + 1
  | .map entries => uptoBulkEntries entries + 1
  | .held _ => 1
def uptoBulkAll {H : Type} : List (DataW H) → Nat
  | [] => 0
  | d :: r => uptoBulk d + uptoBulkAll r
def uptoBulkEntries {H : Type} : List (Lit × DataW H) → Nat
  | [] => 0
  | x :: r => uptoBulkEntry x + uptoBulkEntries r
def uptoBulkEntry {H : Type} : Lit × DataW H → Nat
  | (.string bytes, d) => bytes.length + uptoBulk d + 1
  | (_, d) => uptoBulk d + 1
 end
def uptoSmall : (H : Type) → List (DataW H) → Bool := fun _ ds => decide (uptoBulkAll ds ≤ 1048576)
def OpenSpec.upto (s : _root_.Go.ChangeSpec) : _root_.Go.OpenSpec := { _root_.Go.OpenSpec.ofChange s with cond := some uptoSmall }

/-- 'provenancekeep2.FlatFuel', WHERE WHAT IT READS IS OF BULK AT MOST 1048576: true; the input reads as it did. -/
def flatFuelUptoRow : OpenClaim := { program := "ytkgjldchcbfpnaagreatdoor", sum := "91f1f93d64dde0ca5fc68c0da81e5d9a011ea43a707635114193c5587a4ba507", func := "provenance/provenancekeep2.FlatFuel", spec := "flatFuel", inPlace := ["slices.overlaps[int]", "slices.overlaps[provenance/eval.value]"], unfollowed := true, recurses := true, named := ["provenance/core.arity"], apart := false, laid := [("provenance/core.arity", laid_provenance_core_arity)], narrowed := true }
def FlatFuelUptoSaid : Prop := flatFuelUptoRow.holds Tryz.pinned (OpenSpec.upto flatFuelSpec)

/-- 'provenancekeep2.FlatCore', WHERE WHAT IT READS IS OF BULK AT MOST 1048576: true; the input reads as it did. -/
def flatCoreUptoRow : OpenClaim := { program := "ytkgjldchcbfpnaagreatdoor", sum := "91f1f93d64dde0ca5fc68c0da81e5d9a011ea43a707635114193c5587a4ba507", func := "provenance/provenancekeep2.FlatCore", spec := "flatCore", inPlace := ["slices.overlaps[int]", "slices.overlaps[provenance/eval.value]"], unfollowed := true, recurses := true, named := ["provenance/core.arity"], apart := false, laid := [("provenance/core.arity", laid_provenance_core_arity)], narrowed := true }
def FlatCoreUptoSaid : Prop := flatCoreUptoRow.holds Tryz.pinned (OpenSpec.upto flatCoreSpec)

/-- 'provenancekeep2.CloseKeeps', WHERE WHAT IT READS IS OF BULK AT MOST 1048576: true; the input reads as it did. -/
def closeKeepsUptoRow : OpenClaim := { program := "ytkgjldchcbfpnaagreatdoor", sum := "91f1f93d64dde0ca5fc68c0da81e5d9a011ea43a707635114193c5587a4ba507", func := "provenance/provenancekeep2.CloseKeeps", spec := "closeKeeps", inPlace := ["slices.overlaps[int]", "slices.overlaps[provenance/eval.value]"], unfollowed := true, recurses := true, named := ["provenance/core.arity"], apart := false, laid := [("provenance/core.arity", laid_provenance_core_arity)], narrowed := true }
def CloseKeepsUptoSaid : Prop := closeKeepsUptoRow.holds Tryz.pinned (OpenSpec.upto closeKeepsSpec)

/-- 'provenancekeep2.LowerNames', WHERE WHAT IT READS IS OF BULK AT MOST 1048576: true; the input reads as it did. -/
def lowerNamesUptoRow : OpenClaim := { program := "ytkgjldchcbfpnaagreatdoor", sum := "91f1f93d64dde0ca5fc68c0da81e5d9a011ea43a707635114193c5587a4ba507", func := "provenance/provenancekeep2.LowerNames", spec := "lowerNames", unfollowed := true, recurses := true, named := ["provenance/core.arity", "provenance/lower.plain"], apart := false, laid := [("provenance/core.arity", laid_provenance_core_arity), ("provenance/lower.plain", laid_provenance_lower_plain)], narrowed := true }
def LowerNamesUptoSaid : Prop := lowerNamesUptoRow.holds Tryz.pinned (OpenSpec.upto lowerNamesSpec)

end Rows
end Go.Proofs.YtkgjldchcbfpnaaGreatDoor
