/-
  NARROWER THAN 'FOR EVERY INPUT', by the rows' own cells (each row's printed sentence says how): CoreOrdered: laid · CoreFreeUp: laid · CoreRenewed: laid · CoreCut: laid · PurityAbove: laid · UsageNever: laid · UsageRenamed: laid.
  DERIVED. THE GIVEN ROWS OF THIS SEAT. 7 by the template 'for every input the law returns true; each argument reads behind the call as it read before'; 0 by the template 'total and deterministic' (their statements: YtnonkoeknpmcjaaDoorTotals.lean).
  GIVEN WITH THE SEED: the statements are not yours to turn. If you find one false, say at which input.
  Laid BY PROGRAM, IN A SANDBOX (cutbox-rows.mjs): the forced cells as the released guide's own fill.sh prints them over the translation ba5657b35f659350… (all of the seat's roots in one cut). By AI agents, Wed Nov 11 2026. No macro, syntax, notation, axiom, sorry.
-/
import Derived.Test.YtnonkoeknpmcjaaDoorChecked
import GoSem.Claim
import GoSem.ClaimJoined
import GoSem.ClaimMapViews
import Derived.JoinedTies
import Derived.KernelRfl
namespace Go.Proofs.YtnonkoeknpmcjaaDoor
/- THE CELL 'sum', in the pinned program and in every row, IS THE sha256 OF THE DUMP (.gsa) THAT YtnonkoeknpmcjaaDoorProg.lean LOADS. Nothing in Lean hashes anything: it is a label: what it is worth is what the hold of that sum in a sandbox is worth. -/
noncomputable def Tryd.pinned : Pinned := { name := "ytnonkoeknpmcjaadoor", sum := "ba5657b35f6593503c7d2a8925b745ab4e2b48a0e3a05cc335e4c0e172df0de3", checked := Tryd.checked }
namespace Rows
def none {H : Type} : Left H := { results := [], args := [] }

/- WHAT THE LISTED PACKAGE-LEVEL VARIABLES READ AS WHEN THE CALL BEGINS. Each datum BY PROGRAM (the guide's laid-datum.mjs) off the statement by which the dump's own 'gosem.cut.vars' lays the variable. In a bare row this is a premise. The card (YtnonkoeknpmcjaaDoorCards.lean) ties it to the program's text. -/
def laid_provenance_core_arity {H : Type} : DataW H := .agg [.lit (.int .i64 2), .lit (.int .i64 2), .lit (.int .i64 2), .lit (.int .i64 2), .lit (.int .i64 2), .lit (.int .i64 2), .lit (.int .i64 2), .lit (.int .i64 1), .lit (.int .i64 2), .lit (.int .i64 1), .lit (.int .i64 2), .lit (.int .i64 3)]

/-- 'provenancekeep2.CoreOrdered': WHATEVER THE INPUT: true; the input reads as it did. -/
def coreOrderedSpec : ChangeSpec := { name := "coreOrdered", fn := fun _ => fun
  | [d] => { results := [.lit (.bool true)], args := [d] }
  | _ => none }
def coreOrderedRow : OpenClaim := { program := "ytnonkoeknpmcjaadoor", sum := "ba5657b35f6593503c7d2a8925b745ab4e2b48a0e3a05cc335e4c0e172df0de3", func := "provenance/provenancekeep2.CoreOrdered", spec := "coreOrdered", unfollowed := true, recurses := true, named := ["provenance/core.arity"], apart := false, laid := [("provenance/core.arity", laid_provenance_core_arity)] }
def CoreOrderedSaid : Prop := coreOrderedRow.holds Tryd.pinned (OpenSpec.ofChange coreOrderedSpec)

/-- ITS FALSE NEIGHBOUR: 'it returns false'. Refute it at one input. -/
def coreOrderedWrong : ChangeSpec := { name := "coreOrdered", fn := fun _ => fun
  | [d] => { results := [.lit (.bool false)], args := [d] }
  | _ => none }
def CoreOrderedWrongFalsely : Prop := coreOrderedRow.holds Tryd.pinned (OpenSpec.ofChange coreOrderedWrong)

/-- 'provenancekeep2.CoreFreeUp': WHATEVER THE INPUT: true; the input reads as it did. -/
def coreFreeUpSpec : ChangeSpec := { name := "coreFreeUp", fn := fun _ => fun
  | [d1, d2] => { results := [.lit (.bool true)], args := [d1, d2] }
  | _ => none }
def coreFreeUpRow : OpenClaim := { program := "ytnonkoeknpmcjaadoor", sum := "ba5657b35f6593503c7d2a8925b745ab4e2b48a0e3a05cc335e4c0e172df0de3", func := "provenance/provenancekeep2.CoreFreeUp", spec := "coreFreeUp", unfollowed := true, recurses := true, named := ["provenance/core.arity"], apart := false, laid := [("provenance/core.arity", laid_provenance_core_arity)] }
def CoreFreeUpSaid : Prop := coreFreeUpRow.holds Tryd.pinned (OpenSpec.ofChange coreFreeUpSpec)

/-- ITS FALSE NEIGHBOUR: 'it returns false'. Refute it at one input. -/
def coreFreeUpWrong : ChangeSpec := { name := "coreFreeUp", fn := fun _ => fun
  | [d1, d2] => { results := [.lit (.bool false)], args := [d1, d2] }
  | _ => none }
def CoreFreeUpWrongFalsely : Prop := coreFreeUpRow.holds Tryd.pinned (OpenSpec.ofChange coreFreeUpWrong)

/-- 'provenancekeep2.CoreRenewed': WHATEVER THE INPUT: true; the input reads as it did. -/
def coreRenewedSpec : ChangeSpec := { name := "coreRenewed", fn := fun _ => fun
  | [d1, d2] => { results := [.lit (.bool true)], args := [d1, d2] }
  | _ => none }
def coreRenewedRow : OpenClaim := { program := "ytnonkoeknpmcjaadoor", sum := "ba5657b35f6593503c7d2a8925b745ab4e2b48a0e3a05cc335e4c0e172df0de3", func := "provenance/provenancekeep2.CoreRenewed", spec := "coreRenewed", unfollowed := true, recurses := true, named := ["provenance/core.arity"], apart := false, laid := [("provenance/core.arity", laid_provenance_core_arity)] }
def CoreRenewedSaid : Prop := coreRenewedRow.holds Tryd.pinned (OpenSpec.ofChange coreRenewedSpec)

/-- ITS FALSE NEIGHBOUR: 'it returns false'. Refute it at one input. -/
def coreRenewedWrong : ChangeSpec := { name := "coreRenewed", fn := fun _ => fun
  | [d1, d2] => { results := [.lit (.bool false)], args := [d1, d2] }
  | _ => none }
def CoreRenewedWrongFalsely : Prop := coreRenewedRow.holds Tryd.pinned (OpenSpec.ofChange coreRenewedWrong)

/-- 'provenancekeep2.CoreCut': WHATEVER THE INPUT: true; the input reads as it did. -/
def coreCutSpec : ChangeSpec := { name := "coreCut", fn := fun _ => fun
  | [d1, d2] => { results := [.lit (.bool true)], args := [d1, d2] }
  | _ => none }
def coreCutRow : OpenClaim := { program := "ytnonkoeknpmcjaadoor", sum := "ba5657b35f6593503c7d2a8925b745ab4e2b48a0e3a05cc335e4c0e172df0de3", func := "provenance/provenancekeep2.CoreCut", spec := "coreCut", unfollowed := true, recurses := true, named := ["provenance/core.arity"], apart := false, laid := [("provenance/core.arity", laid_provenance_core_arity)] }
def CoreCutSaid : Prop := coreCutRow.holds Tryd.pinned (OpenSpec.ofChange coreCutSpec)

/-- ITS FALSE NEIGHBOUR: 'it returns false'. Refute it at one input. -/
def coreCutWrong : ChangeSpec := { name := "coreCut", fn := fun _ => fun
  | [d1, d2] => { results := [.lit (.bool false)], args := [d1, d2] }
  | _ => none }
def CoreCutWrongFalsely : Prop := coreCutRow.holds Tryd.pinned (OpenSpec.ofChange coreCutWrong)

/-- 'provenancekeep2.PurityAbove': WHATEVER THE INPUT: true; the input reads as it did. -/
def purityAboveSpec : ChangeSpec := { name := "purityAbove", fn := fun _ => fun
  | [d] => { results := [.lit (.bool true)], args := [d] }
  | _ => none }
def purityAboveRow : OpenClaim := { program := "ytnonkoeknpmcjaadoor", sum := "ba5657b35f6593503c7d2a8925b745ab4e2b48a0e3a05cc335e4c0e172df0de3", func := "provenance/provenancekeep2.PurityAbove", spec := "purityAbove", unfollowed := true, recurses := true, named := ["provenance/core.arity"], apart := false, laid := [("provenance/core.arity", laid_provenance_core_arity)] }
def PurityAboveSaid : Prop := purityAboveRow.holds Tryd.pinned (OpenSpec.ofChange purityAboveSpec)

/-- ITS FALSE NEIGHBOUR: 'it returns false'. Refute it at one input. -/
def purityAboveWrong : ChangeSpec := { name := "purityAbove", fn := fun _ => fun
  | [d] => { results := [.lit (.bool false)], args := [d] }
  | _ => none }
def PurityAboveWrongFalsely : Prop := purityAboveRow.holds Tryd.pinned (OpenSpec.ofChange purityAboveWrong)

/-- 'provenancekeep2.UsageNever': WHATEVER THE INPUT: true; the input reads as it did. -/
def usageNeverSpec : ChangeSpec := { name := "usageNever", fn := fun _ => fun
  | [d] => { results := [.lit (.bool true)], args := [d] }
  | _ => none }
def usageNeverRow : OpenClaim := { program := "ytnonkoeknpmcjaadoor", sum := "ba5657b35f6593503c7d2a8925b745ab4e2b48a0e3a05cc335e4c0e172df0de3", func := "provenance/provenancekeep2.UsageNever", spec := "usageNever", unfollowed := true, recurses := true, named := ["provenance/core.arity"], apart := false, laid := [("provenance/core.arity", laid_provenance_core_arity)] }
def UsageNeverSaid : Prop := usageNeverRow.holds Tryd.pinned (OpenSpec.ofChange usageNeverSpec)

/-- ITS FALSE NEIGHBOUR: 'it returns false'. Refute it at one input. -/
def usageNeverWrong : ChangeSpec := { name := "usageNever", fn := fun _ => fun
  | [d] => { results := [.lit (.bool false)], args := [d] }
  | _ => none }
def UsageNeverWrongFalsely : Prop := usageNeverRow.holds Tryd.pinned (OpenSpec.ofChange usageNeverWrong)

/-- 'provenancekeep2.UsageRenamed': WHATEVER THE INPUT: true; the input reads as it did. -/
def usageRenamedSpec : ChangeSpec := { name := "usageRenamed", fn := fun _ => fun
  | [d] => { results := [.lit (.bool true)], args := [d] }
  | _ => none }
def usageRenamedRow : OpenClaim := { program := "ytnonkoeknpmcjaadoor", sum := "ba5657b35f6593503c7d2a8925b745ab4e2b48a0e3a05cc335e4c0e172df0de3", func := "provenance/provenancekeep2.UsageRenamed", spec := "usageRenamed", unfollowed := true, recurses := true, named := ["provenance/core.arity"], apart := false, laid := [("provenance/core.arity", laid_provenance_core_arity)] }
def UsageRenamedSaid : Prop := usageRenamedRow.holds Tryd.pinned (OpenSpec.ofChange usageRenamedSpec)

/-- ITS FALSE NEIGHBOUR: 'it returns false'. Refute it at one input. -/
def usageRenamedWrong : ChangeSpec := { name := "usageRenamed", fn := fun _ => fun
  | [d] => { results := [.lit (.bool false)], args := [d] }
  | _ => none }
def UsageRenamedWrongFalsely : Prop := usageRenamedRow.holds Tryd.pinned (OpenSpec.ofChange usageRenamedWrong)

/- THE SECOND FORM. 'bulk': how many values and letters a reading holds, each counted each time it is reached (what is shared counts as often as it is met; a slice's spare places count too). A statement '..UptoSaid' is the law's where the arguments, and the package variables that the reading takes, are together of bulk at most 1048576: NARROWER than '..Said'. Prove '..Said' where nothing that the law and all that it calls make is longer than what came in: it says more and counts as full. Else prove '..UptoSaid'. A law counts once. -/
mutual
def uptoBulk {H : Type} : DataW H → Nat
  | .lit (.string bytes) => bytes.length + 1
  | .lit _ => 1
  | .nil => 1
  | .ptr d => uptoBulk d + 1
  | .slice elems spare => uptoBulkAll elems + uptoBulkAll spare + 1
  | .agg parts => uptoBulkAll parts + 1
  | .iface _ d => uptoBulk d + 1
  | .map entries => uptoBulkEntries entries + 1
  | .held _ => 1
def uptoBulkAll {H : Type} : List (DataW H) → Nat
  | [] => 0
  | d :: r => uptoBulk d + uptoBulkAll r
def uptoBulkEntries {H : Type} : List (Lit × DataW H) → Nat
  | [] => 0
  | x :: r => uptoBulkEntry x + uptoBulkEntries r
def uptoBulkEntry {H : Type} : Lit × DataW H → Nat
  | (.string bytes, d) => bytes.length + uptoBulk d + 1
  | (_, d) => uptoBulk d + 1
 end
def uptoSmall : (H : Type) → List (DataW H) → Bool := fun _ ds => decide (uptoBulkAll ds ≤ 1048576)
def OpenSpec.upto (s : _root_.Go.ChangeSpec) : _root_.Go.OpenSpec := { _root_.Go.OpenSpec.ofChange s with cond := some uptoSmall }

/-- 'provenancekeep2.CoreOrdered', WHERE WHAT IT READS IS OF BULK AT MOST 1048576: true; the input reads as it did. -/
def coreOrderedUptoRow : OpenClaim := { program := "ytnonkoeknpmcjaadoor", sum := "ba5657b35f6593503c7d2a8925b745ab4e2b48a0e3a05cc335e4c0e172df0de3", func := "provenance/provenancekeep2.CoreOrdered", spec := "coreOrdered", unfollowed := true, recurses := true, named := ["provenance/core.arity"], apart := false, laid := [("provenance/core.arity", laid_provenance_core_arity)], narrowed := true }
def CoreOrderedUptoSaid : Prop := coreOrderedUptoRow.holds Tryd.pinned (OpenSpec.upto coreOrderedSpec)

/-- 'provenancekeep2.CoreFreeUp', WHERE WHAT IT READS IS OF BULK AT MOST 1048576: true; the input reads as it did. -/
def coreFreeUpUptoRow : OpenClaim := { program := "ytnonkoeknpmcjaadoor", sum := "ba5657b35f6593503c7d2a8925b745ab4e2b48a0e3a05cc335e4c0e172df0de3", func := "provenance/provenancekeep2.CoreFreeUp", spec := "coreFreeUp", unfollowed := true, recurses := true, named := ["provenance/core.arity"], apart := false, laid := [("provenance/core.arity", laid_provenance_core_arity)], narrowed := true }
def CoreFreeUpUptoSaid : Prop := coreFreeUpUptoRow.holds Tryd.pinned (OpenSpec.upto coreFreeUpSpec)

/-- 'provenancekeep2.CoreRenewed', WHERE WHAT IT READS IS OF BULK AT MOST 1048576: true; the input reads as it did. -/
def coreRenewedUptoRow : OpenClaim := { program := "ytnonkoeknpmcjaadoor", sum := "ba5657b35f6593503c7d2a8925b745ab4e2b48a0e3a05cc335e4c0e172df0de3", func := "provenance/provenancekeep2.CoreRenewed", spec := "coreRenewed", unfollowed := true, recurses := true, named := ["provenance/core.arity"], apart := false, laid := [("provenance/core.arity", laid_provenance_core_arity)], narrowed := true }
def CoreRenewedUptoSaid : Prop := coreRenewedUptoRow.holds Tryd.pinned (OpenSpec.upto coreRenewedSpec)

/-- 'provenancekeep2.CoreCut', WHERE WHAT IT READS IS OF BULK AT MOST 1048576: true; the input reads as it did. -/
def coreCutUptoRow : OpenClaim := { program := "ytnonkoeknpmcjaadoor", sum := "ba5657b35f6593503c7d2a8925b745ab4e2b48a0e3a05cc335e4c0e172df0de3", func := "provenance/provenancekeep2.CoreCut", spec := "coreCut", unfollowed := true, recurses := true, named := ["provenance/core.arity"], apart := false, laid := [("provenance/core.arity", laid_provenance_core_arity)], narrowed := true }
def CoreCutUptoSaid : Prop := coreCutUptoRow.holds Tryd.pinned (OpenSpec.upto coreCutSpec)

/-- 'provenancekeep2.PurityAbove', WHERE WHAT IT READS IS OF BULK AT MOST 1048576: true; the input reads as it did. -/
def purityAboveUptoRow : OpenClaim := { program := "ytnonkoeknpmcjaadoor", sum := "ba5657b35f6593503c7d2a8925b745ab4e2b48a0e3a05cc335e4c0e172df0de3", func := "provenance/provenancekeep2.PurityAbove", spec := "purityAbove", unfollowed := true, recurses := true, named := ["provenance/core.arity"], apart := false, laid := [("provenance/core.arity", laid_provenance_core_arity)], narrowed := true }
def PurityAboveUptoSaid : Prop := purityAboveUptoRow.holds Tryd.pinned (OpenSpec.upto purityAboveSpec)

/-- 'provenancekeep2.UsageNever', WHERE WHAT IT READS IS OF BULK AT MOST 1048576: true; the input reads as it did. -/
def usageNeverUptoRow : OpenClaim := { program := "ytnonkoeknpmcjaadoor", sum := "ba5657b35f6593503c7d2a8925b745ab4e2b48a0e3a05cc335e4c0e172df0de3", func := "provenance/provenancekeep2.UsageNever", spec := "usageNever", unfollowed := true, recurses := true, named := ["provenance/core.arity"], apart := false, laid := [("provenance/core.arity", laid_provenance_core_arity)], narrowed := true }
def UsageNeverUptoSaid : Prop := usageNeverUptoRow.holds Tryd.pinned (OpenSpec.upto usageNeverSpec)

/-- 'provenancekeep2.UsageRenamed', WHERE WHAT IT READS IS OF BULK AT MOST 1048576: true; the input reads as it did. -/
def usageRenamedUptoRow : OpenClaim := { program := "ytnonkoeknpmcjaadoor", sum := "ba5657b35f6593503c7d2a8925b745ab4e2b48a0e3a05cc335e4c0e172df0de3", func := "provenance/provenancekeep2.UsageRenamed", spec := "usageRenamed", unfollowed := true, recurses := true, named := ["provenance/core.arity"], apart := false, laid := [("provenance/core.arity", laid_provenance_core_arity)], narrowed := true }
def UsageRenamedUptoSaid : Prop := usageRenamedUptoRow.holds Tryd.pinned (OpenSpec.upto usageRenamedSpec)

end Rows
end Go.Proofs.YtnonkoeknpmcjaaDoor
