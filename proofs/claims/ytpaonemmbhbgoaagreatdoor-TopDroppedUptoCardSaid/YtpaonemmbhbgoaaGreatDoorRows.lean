/-
  NARROWER THAN 'FOR EVERY INPUT', by the rows' own cells (each row's printed sentence says how): TopDropped: laid · TopReplay: laid · EvalResumes: laid · EvalNested: laid · EvalResumed: laid · EvalLoop: laid · LiftClosed: laid · ContifyTwice: laid · LiftPlain: laid · SimplifyWords: laid.
  DERIVED. THE GIVEN ROWS OF THIS SEAT. 10 by the template 'for every input the law returns true; each argument reads behind the call as it read before'; 0 by the template 'total and deterministic' (their statements: YtpaonemmbhbgoaaGreatDoorTotals.lean).
  GIVEN WITH THE SEED: the statements are not yours to turn. If you find one false, say at which input.
  Laid BY PROGRAM, IN A SANDBOX (cutbox-rows.mjs): the forced cells as the released guide's own fill.sh prints them over the translation b8d3ab3901da5a90… (all of the seat's roots in one cut). By AI agents, Wed Nov 11 2026. No macro, syntax, notation, axiom, sorry.
-/
import Derived.Test.YtpaonemmbhbgoaaGreatDoorChecked
import GoSem.Claim
import GoSem.ClaimJoined
import GoSem.ClaimMapViews
import Derived.JoinedTies
import Derived.KernelRfl
namespace Go.Proofs.YtpaonemmbhbgoaaGreatDoor
/- THE CELL 'sum', in the pinned program and in every row, IS THE sha256 OF THE DUMP (.gsa) THAT YtpaonemmbhbgoaaGreatDoorProg.lean LOADS. Nothing in Lean hashes anything: it is a label: what it is worth is what the hold of that sum in a sandbox is worth. -/
noncomputable def Tryz.pinned : Pinned := { name := "ytpaonemmbhbgoaagreatdoor", sum := "b8d3ab3901da5a90fc0a6917d53fa4518a6d2665707fb3024c089f46027b4c81", checked := Tryz.checked }
namespace Rows
def none {H : Type} : Left H := { results := [], args := [] }

/- WHAT THE LISTED PACKAGE-LEVEL VARIABLES READ AS WHEN THE CALL BEGINS. Each datum BY PROGRAM (the guide's laid-datum.mjs) off the statement by which the dump's own 'gosem.cut.vars' lays the variable. In a bare row this is a premise. The card (YtpaonemmbhbgoaaGreatDoorCards.lean) ties it to the program's text. -/
def laid_provenance_core_arity {H : Type} : DataW H := .agg [.lit (.int .i64 2), .lit (.int .i64 2), .lit (.int .i64 2), .lit (.int .i64 2), .lit (.int .i64 2), .lit (.int .i64 2), .lit (.int .i64 2), .lit (.int .i64 1), .lit (.int .i64 2), .lit (.int .i64 1), .lit (.int .i64 2), .lit (.int .i64 3)]
def laid_provenance_rewrite_order {H : Type} : DataW H := .agg [.lit (.int .i64 3), .lit (.int .i64 4), .lit (.int .i64 6), .lit (.int .i64 7), .lit (.int .i64 5), .lit (.int .i64 1), .lit (.int .i64 2), .lit (.int .i64 11), .lit (.int .i64 8), .lit (.int .i64 9)]

/-- 'provenancetop.TopDropped': WHATEVER THE INPUT: true; the input reads as it did. -/
def topDroppedSpec : ChangeSpec := { name := "topDropped", fn := fun _ => fun
  | [d] => { results := [.lit (.bool true)], args := [d] }
  | _ => none }
def topDroppedRow : OpenClaim := { program := "ytpaonemmbhbgoaagreatdoor", sum := "b8d3ab3901da5a90fc0a6917d53fa4518a6d2665707fb3024c089f46027b4c81", func := "provenance/provenancetop.TopDropped", spec := "topDropped", inPlace := ["slices.overlaps[int]", "slices.overlaps[provenance/eval.value]"], unfollowed := true, recurses := true, named := ["provenance/core.arity", "provenance/rewrite.order"], apart := false, laid := [("provenance/core.arity", laid_provenance_core_arity), ("provenance/rewrite.order", laid_provenance_rewrite_order)] }
def TopDroppedSaid : Prop := topDroppedRow.holds Tryz.pinned (OpenSpec.ofChange topDroppedSpec)

/-- ITS FALSE NEIGHBOUR: 'it returns false'. Refute it at one input. -/
def topDroppedWrong : ChangeSpec := { name := "topDropped", fn := fun _ => fun
  | [d] => { results := [.lit (.bool false)], args := [d] }
  | _ => none }
def TopDroppedWrongFalsely : Prop := topDroppedRow.holds Tryz.pinned (OpenSpec.ofChange topDroppedWrong)

/-- 'provenancetop.TopReplay': WHATEVER THE INPUT: true; the input reads as it did. -/
def topReplaySpec : ChangeSpec := { name := "topReplay", fn := fun _ => fun
  | [d1, d2, d3] => { results := [.lit (.bool true)], args := [d1, d2, d3] }
  | _ => none }
def topReplayRow : OpenClaim := { program := "ytpaonemmbhbgoaagreatdoor", sum := "b8d3ab3901da5a90fc0a6917d53fa4518a6d2665707fb3024c089f46027b4c81", func := "provenance/provenancetop.TopReplay", spec := "topReplay", inPlace := ["slices.overlaps[int]", "slices.overlaps[provenance/eval.value]"], unfollowed := true, recurses := true, named := ["provenance/core.arity", "provenance/rewrite.order"], apart := false, laid := [("provenance/core.arity", laid_provenance_core_arity), ("provenance/rewrite.order", laid_provenance_rewrite_order)] }
def TopReplaySaid : Prop := topReplayRow.holds Tryz.pinned (OpenSpec.ofChange topReplaySpec)

/-- ITS FALSE NEIGHBOUR: 'it returns false'. Refute it at one input. -/
def topReplayWrong : ChangeSpec := { name := "topReplay", fn := fun _ => fun
  | [d1, d2, d3] => { results := [.lit (.bool false)], args := [d1, d2, d3] }
  | _ => none }
def TopReplayWrongFalsely : Prop := topReplayRow.holds Tryz.pinned (OpenSpec.ofChange topReplayWrong)

/-- 'provenancekeep2.EvalResumes': WHATEVER THE INPUT: true; the input reads as it did. -/
def evalResumesSpec : ChangeSpec := { name := "evalResumes", fn := fun _ => fun
  | [d1, d2] => { results := [.lit (.bool true)], args := [d1, d2] }
  | _ => none }
def evalResumesRow : OpenClaim := { program := "ytpaonemmbhbgoaagreatdoor", sum := "b8d3ab3901da5a90fc0a6917d53fa4518a6d2665707fb3024c089f46027b4c81", func := "provenance/provenancekeep2.EvalResumes", spec := "evalResumes", inPlace := ["slices.overlaps[int]", "slices.overlaps[provenance/eval.value]"], unfollowed := true, recurses := true, named := ["provenance/core.arity"], apart := false, laid := [("provenance/core.arity", laid_provenance_core_arity)] }
def EvalResumesSaid : Prop := evalResumesRow.holds Tryz.pinned (OpenSpec.ofChange evalResumesSpec)

/-- ITS FALSE NEIGHBOUR: 'it returns false'. Refute it at one input. -/
def evalResumesWrong : ChangeSpec := { name := "evalResumes", fn := fun _ => fun
  | [d1, d2] => { results := [.lit (.bool false)], args := [d1, d2] }
  | _ => none }
def EvalResumesWrongFalsely : Prop := evalResumesRow.holds Tryz.pinned (OpenSpec.ofChange evalResumesWrong)

/-- 'provenancekeep2.EvalNested': WHATEVER THE INPUT: true; the input reads as it did. -/
def evalNestedSpec : ChangeSpec := { name := "evalNested", fn := fun _ => fun
  | [d1, d2] => { results := [.lit (.bool true)], args := [d1, d2] }
  | _ => none }
def evalNestedRow : OpenClaim := { program := "ytpaonemmbhbgoaagreatdoor", sum := "b8d3ab3901da5a90fc0a6917d53fa4518a6d2665707fb3024c089f46027b4c81", func := "provenance/provenancekeep2.EvalNested", spec := "evalNested", inPlace := ["slices.overlaps[int]", "slices.overlaps[provenance/eval.value]"], unfollowed := true, recurses := true, named := ["provenance/core.arity"], apart := false, laid := [("provenance/core.arity", laid_provenance_core_arity)] }
def EvalNestedSaid : Prop := evalNestedRow.holds Tryz.pinned (OpenSpec.ofChange evalNestedSpec)

/-- ITS FALSE NEIGHBOUR: 'it returns false'. Refute it at one input. -/
def evalNestedWrong : ChangeSpec := { name := "evalNested", fn := fun _ => fun
  | [d1, d2] => { results := [.lit (.bool false)], args := [d1, d2] }
  | _ => none }
def EvalNestedWrongFalsely : Prop := evalNestedRow.holds Tryz.pinned (OpenSpec.ofChange evalNestedWrong)

/-- 'provenancekeep2.EvalResumed': WHATEVER THE INPUT: true; the input reads as it did. -/
def evalResumedSpec : ChangeSpec := { name := "evalResumed", fn := fun _ => fun
  | [d1, d2] => { results := [.lit (.bool true)], args := [d1, d2] }
  | _ => none }
def evalResumedRow : OpenClaim := { program := "ytpaonemmbhbgoaagreatdoor", sum := "b8d3ab3901da5a90fc0a6917d53fa4518a6d2665707fb3024c089f46027b4c81", func := "provenance/provenancekeep2.EvalResumed", spec := "evalResumed", inPlace := ["slices.overlaps[int]", "slices.overlaps[provenance/eval.value]"], unfollowed := true, recurses := true, named := ["provenance/core.arity"], apart := false, laid := [("provenance/core.arity", laid_provenance_core_arity)] }
def EvalResumedSaid : Prop := evalResumedRow.holds Tryz.pinned (OpenSpec.ofChange evalResumedSpec)

/-- ITS FALSE NEIGHBOUR: 'it returns false'. Refute it at one input. -/
def evalResumedWrong : ChangeSpec := { name := "evalResumed", fn := fun _ => fun
  | [d1, d2] => { results := [.lit (.bool false)], args := [d1, d2] }
  | _ => none }
def EvalResumedWrongFalsely : Prop := evalResumedRow.holds Tryz.pinned (OpenSpec.ofChange evalResumedWrong)

/-- 'provenancekeep2.EvalLoop': WHATEVER THE INPUT: true; the input reads as it did. -/
def evalLoopSpec : ChangeSpec := { name := "evalLoop", fn := fun _ => fun
  | [d] => { results := [.lit (.bool true)], args := [d] }
  | _ => none }
def evalLoopRow : OpenClaim := { program := "ytpaonemmbhbgoaagreatdoor", sum := "b8d3ab3901da5a90fc0a6917d53fa4518a6d2665707fb3024c089f46027b4c81", func := "provenance/provenancekeep2.EvalLoop", spec := "evalLoop", inPlace := ["slices.overlaps[int]", "slices.overlaps[provenance/eval.value]"], unfollowed := true, recurses := true, named := ["provenance/core.arity"], apart := false, laid := [("provenance/core.arity", laid_provenance_core_arity)] }
def EvalLoopSaid : Prop := evalLoopRow.holds Tryz.pinned (OpenSpec.ofChange evalLoopSpec)

/-- ITS FALSE NEIGHBOUR: 'it returns false'. Refute it at one input. -/
def evalLoopWrong : ChangeSpec := { name := "evalLoop", fn := fun _ => fun
  | [d] => { results := [.lit (.bool false)], args := [d] }
  | _ => none }
def EvalLoopWrongFalsely : Prop := evalLoopRow.holds Tryz.pinned (OpenSpec.ofChange evalLoopWrong)

/-- 'provenancekeep2.LiftClosed': WHATEVER THE INPUT: true; the input reads as it did. -/
def liftClosedSpec : ChangeSpec := { name := "liftClosed", fn := fun _ => fun
  | [d] => { results := [.lit (.bool true)], args := [d] }
  | _ => none }
def liftClosedRow : OpenClaim := { program := "ytpaonemmbhbgoaagreatdoor", sum := "b8d3ab3901da5a90fc0a6917d53fa4518a6d2665707fb3024c089f46027b4c81", func := "provenance/provenancekeep2.LiftClosed", spec := "liftClosed", inPlace := ["slices.overlaps[int]", "slices.overlaps[provenance/eval.value]"], unfollowed := true, recurses := true, named := ["provenance/core.arity"], apart := false, laid := [("provenance/core.arity", laid_provenance_core_arity)] }
def LiftClosedSaid : Prop := liftClosedRow.holds Tryz.pinned (OpenSpec.ofChange liftClosedSpec)

/-- ITS FALSE NEIGHBOUR: 'it returns false'. Refute it at one input. -/
def liftClosedWrong : ChangeSpec := { name := "liftClosed", fn := fun _ => fun
  | [d] => { results := [.lit (.bool false)], args := [d] }
  | _ => none }
def LiftClosedWrongFalsely : Prop := liftClosedRow.holds Tryz.pinned (OpenSpec.ofChange liftClosedWrong)

/-- 'provenancekeep2.ContifyTwice': WHATEVER THE INPUT: true; the input reads as it did. -/
def contifyTwiceSpec : ChangeSpec := { name := "contifyTwice", fn := fun _ => fun
  | [d] => { results := [.lit (.bool true)], args := [d] }
  | _ => none }
def contifyTwiceRow : OpenClaim := { program := "ytpaonemmbhbgoaagreatdoor", sum := "b8d3ab3901da5a90fc0a6917d53fa4518a6d2665707fb3024c089f46027b4c81", func := "provenance/provenancekeep2.ContifyTwice", spec := "contifyTwice", inPlace := ["slices.overlaps[int]", "slices.overlaps[provenance/eval.value]"], unfollowed := true, recurses := true, named := ["provenance/core.arity"], apart := false, laid := [("provenance/core.arity", laid_provenance_core_arity)] }
def ContifyTwiceSaid : Prop := contifyTwiceRow.holds Tryz.pinned (OpenSpec.ofChange contifyTwiceSpec)

/-- ITS FALSE NEIGHBOUR: 'it returns false'. Refute it at one input. -/
def contifyTwiceWrong : ChangeSpec := { name := "contifyTwice", fn := fun _ => fun
  | [d] => { results := [.lit (.bool false)], args := [d] }
  | _ => none }
def ContifyTwiceWrongFalsely : Prop := contifyTwiceRow.holds Tryz.pinned (OpenSpec.ofChange contifyTwiceWrong)

/-- 'provenancekeep2.LiftPlain': WHATEVER THE INPUT: true; the input reads as it did. -/
def liftPlainSpec : ChangeSpec := { name := "liftPlain", fn := fun _ => fun
  | [d] => { results := [.lit (.bool true)], args := [d] }
  | _ => none }
def liftPlainRow : OpenClaim := { program := "ytpaonemmbhbgoaagreatdoor", sum := "b8d3ab3901da5a90fc0a6917d53fa4518a6d2665707fb3024c089f46027b4c81", func := "provenance/provenancekeep2.LiftPlain", spec := "liftPlain", inPlace := ["slices.overlaps[int]", "slices.overlaps[provenance/eval.value]"], unfollowed := true, recurses := true, named := ["provenance/core.arity"], apart := false, laid := [("provenance/core.arity", laid_provenance_core_arity)] }
def LiftPlainSaid : Prop := liftPlainRow.holds Tryz.pinned (OpenSpec.ofChange liftPlainSpec)

/-- ITS FALSE NEIGHBOUR: 'it returns false'. Refute it at one input. -/
def liftPlainWrong : ChangeSpec := { name := "liftPlain", fn := fun _ => fun
  | [d] => { results := [.lit (.bool false)], args := [d] }
  | _ => none }
def LiftPlainWrongFalsely : Prop := liftPlainRow.holds Tryz.pinned (OpenSpec.ofChange liftPlainWrong)

/-- 'provenancekeep2.SimplifyWords': WHATEVER THE INPUT: true; the input reads as it did. -/
def simplifyWordsSpec : ChangeSpec := { name := "simplifyWords", fn := fun _ => fun
  | [d] => { results := [.lit (.bool true)], args := [d] }
  | _ => none }
def simplifyWordsRow : OpenClaim := { program := "ytpaonemmbhbgoaagreatdoor", sum := "b8d3ab3901da5a90fc0a6917d53fa4518a6d2665707fb3024c089f46027b4c81", func := "provenance/provenancekeep2.SimplifyWords", spec := "simplifyWords", inPlace := ["slices.overlaps[int]", "slices.overlaps[provenance/eval.value]"], unfollowed := true, recurses := true, named := ["provenance/core.arity", "provenance/rewrite.order"], apart := false, laid := [("provenance/core.arity", laid_provenance_core_arity), ("provenance/rewrite.order", laid_provenance_rewrite_order)] }
def SimplifyWordsSaid : Prop := simplifyWordsRow.holds Tryz.pinned (OpenSpec.ofChange simplifyWordsSpec)

/-- ITS FALSE NEIGHBOUR: 'it returns false'. Refute it at one input. -/
def simplifyWordsWrong : ChangeSpec := { name := "simplifyWords", fn := fun _ => fun
  | [d] => { results := [.lit (.bool false)], args := [d] }
  | _ => none }
def SimplifyWordsWrongFalsely : Prop := simplifyWordsRow.holds Tryz.pinned (OpenSpec.ofChange simplifyWordsWrong)

/- THE SECOND FORM. 'bulk': how many values and letters a reading holds, each counted each time it is reached (what is shared counts as often as it is met; a slice's spare places count too). A statement '..UptoSaid' is the law's where the arguments, and the package variables that the reading takes, are together of bulk at most 1048576: NARROWER than '..Said'. Prove '..Said' where nothing that the law and all that it calls make is longer than what came in: it says more and counts as full. Else prove '..UptoSaid'. A law counts once. -/
mutual
def uptoBulk {H : Type} : DataW H → Nat
  | .lit (.string bytes) => bytes.length + 1
  | .lit _ => 1
  | .nil => 1
  | .ptr d => uptoBulk d + 1
  | .slice elems spare => uptoBulkAll elems + uptoBulkAll spare + 1
  | .agg parts => uptoBulkAll parts + 1
  | .iface _ d => uptoBulk d + 1
  | .map entries => uptoBulkEntries entries + 1
  | .held _ => 1
def uptoBulkAll {H : Type} : List (DataW H) → Nat
  | [] => 0
  | d :: r => uptoBulk d + uptoBulkAll r
def uptoBulkEntries {H : Type} : List (Lit × DataW H) → Nat
  | [] => 0
  | x :: r => uptoBulkEntry x + uptoBulkEntries r
def uptoBulkEntry {H : Type} : Lit × DataW H → Nat
  | (.string bytes, d) => bytes.length + uptoBulk d + 1
  | (_, d) => uptoBulk d + 1
 end
def uptoSmall : (H : Type) → List (DataW H) → Bool := fun _ ds => decide (uptoBulkAll ds ≤ 1048576)
def OpenSpec.upto (s : _root_.Go.ChangeSpec) : _root_.Go.OpenSpec := { _root_.Go.OpenSpec.ofChange s with cond := some uptoSmall }

/-- 'provenancetop.TopDropped', WHERE WHAT IT READS IS OF BULK AT MOST 1048576: true; the input reads as it did. -/
def topDroppedUptoRow : OpenClaim := { program := "ytpaonemmbhbgoaagreatdoor", sum := "b8d3ab3901da5a90fc0a6917d53fa4518a6d2665707fb3024c089f46027b4c81", func := "provenance/provenancetop.TopDropped", spec := "topDropped", inPlace := ["slices.overlaps[int]", "slices.overlaps[provenance/eval.value]"], unfollowed := true, recurses := true, named := ["provenance/core.arity", "provenance/rewrite.order"], apart := false, laid := [("provenance/core.arity", laid_provenance_core_arity), ("provenance/rewrite.order", laid_provenance_rewrite_order)], narrowed := true }
def TopDroppedUptoSaid : Prop := topDroppedUptoRow.holds Tryz.pinned (OpenSpec.upto topDroppedSpec)

/-- 'provenancetop.TopReplay', WHERE WHAT IT READS IS OF BULK AT MOST 1048576: true; the input reads as it did. -/
def topReplayUptoRow : OpenClaim := { program := "ytpaonemmbhbgoaagreatdoor", sum := "b8d3ab3901da5a90fc0a6917d53fa4518a6d2665707fb3024c089f46027b4c81", func := "provenance/provenancetop.TopReplay", spec := "topReplay", inPlace := ["slices.overlaps[int]", "slices.overlaps[provenance/eval.value]"], unfollowed := true, recurses := true, named := ["provenance/core.arity", "provenance/rewrite.order"], apart := false, laid := [("provenance/core.arity", laid_provenance_core_arity), ("provenance/rewrite.order", laid_provenance_rewrite_order)], narrowed := true }
def TopReplayUptoSaid : Prop := topReplayUptoRow.holds Tryz.pinned (OpenSpec.upto topReplaySpec)

/-- 'provenancekeep2.EvalResumes', WHERE WHAT IT READS IS OF BULK AT MOST 1048576: true; the input reads as it did. -/
def evalResumesUptoRow : OpenClaim := { program := "ytpaonemmbhbgoaagreatdoor", sum := "b8d3ab3901da5a90fc0a6917d53fa4518a6d2665707fb3024c089f46027b4c81", func := "provenance/provenancekeep2.EvalResumes", spec := "evalResumes", inPlace := ["slices.overlaps[int]", "slices.overlaps[provenance/eval.value]"], unfollowed := true, recurses := true, named := ["provenance/core.arity"], apart := false, laid := [("provenance/core.arity", laid_provenance_core_arity)], narrowed := true }
def EvalResumesUptoSaid : Prop := evalResumesUptoRow.holds Tryz.pinned (OpenSpec.upto evalResumesSpec)

/-- 'provenancekeep2.EvalNested', WHERE WHAT IT READS IS OF BULK AT MOST 1048576: true; the input reads as it did. -/
def evalNestedUptoRow : OpenClaim := { program := "ytpaonemmbhbgoaagreatdoor", sum := "b8d3ab3901da5a90fc0a6917d53fa4518a6d2665707fb3024c089f46027b4c81", func := "provenance/provenancekeep2.EvalNested", spec := "evalNested", inPlace := ["slices.overlaps[int]", "slices.overlaps[provenance/eval.value]"], unfollowed := true, recurses := true, named := ["provenance/core.arity"], apart := false, laid := [("provenance/core.arity", laid_provenance_core_arity)], narrowed := true }
def EvalNestedUptoSaid : Prop := evalNestedUptoRow.holds Tryz.pinned (OpenSpec.upto evalNestedSpec)

/-- 'provenancekeep2.EvalResumed', WHERE WHAT IT READS IS OF BULK AT MOST 1048576: true; the input reads as it did. -/
def evalResumedUptoRow : OpenClaim := { program := "ytpaonemmbhbgoaagreatdoor", sum := "b8d3ab3901da5a90fc0a6917d53fa4518a6d2665707fb3024c089f46027b4c81", func := "provenance/provenancekeep2.EvalResumed", spec := "evalResumed", inPlace := ["slices.overlaps[int]", "slices.overlaps[provenance/eval.value]"], unfollowed := true, recurses := true, named := ["provenance/core.arity"], apart := false, laid := [("provenance/core.arity", laid_provenance_core_arity)], narrowed := true }
def EvalResumedUptoSaid : Prop := evalResumedUptoRow.holds Tryz.pinned (OpenSpec.upto evalResumedSpec)

/-- 'provenancekeep2.EvalLoop', WHERE WHAT IT READS IS OF BULK AT MOST 1048576: true; the input reads as it did. -/
def evalLoopUptoRow : OpenClaim := { program := "ytpaonemmbhbgoaagreatdoor", sum := "b8d3ab3901da5a90fc0a6917d53fa4518a6d2665707fb3024c089f46027b4c81", func := "provenance/provenancekeep2.EvalLoop", spec := "evalLoop", inPlace := ["slices.overlaps[int]", "slices.overlaps[provenance/eval.value]"], unfollowed := true, recurses := true, named := ["provenance/core.arity"], apart := false, laid := [("provenance/core.arity", laid_provenance_core_arity)], narrowed := true }
def EvalLoopUptoSaid : Prop := evalLoopUptoRow.holds Tryz.pinned (OpenSpec.upto evalLoopSpec)

/-- 'provenancekeep2.LiftClosed', WHERE WHAT IT READS IS OF BULK AT MOST 1048576: true; the input reads as it did. -/
def liftClosedUptoRow : OpenClaim := { program := "ytpaonemmbhbgoaagreatdoor", sum := "b8d3ab3901da5a90fc0a6917d53fa4518a6d2665707fb3024c089f46027b4c81", func := "provenance/provenancekeep2.LiftClosed", spec := "liftClosed", inPlace := ["slices.overlaps[int]", "slices.overlaps[provenance/eval.value]"], unfollowed := true, recurses := true, named := ["provenance/core.arity"], apart := false, laid := [("provenance/core.arity", laid_provenance_core_arity)], narrowed := true }
def LiftClosedUptoSaid : Prop := liftClosedUptoRow.holds Tryz.pinned (OpenSpec.upto liftClosedSpec)

/-- 'provenancekeep2.ContifyTwice', WHERE WHAT IT READS IS OF BULK AT MOST 1048576: true; the input reads as it did. -/
def contifyTwiceUptoRow : OpenClaim := { program := "ytpaonemmbhbgoaagreatdoor", sum := "b8d3ab3901da5a90fc0a6917d53fa4518a6d2665707fb3024c089f46027b4c81", func := "provenance/provenancekeep2.ContifyTwice", spec := "contifyTwice", inPlace := ["slices.overlaps[int]", "slices.overlaps[provenance/eval.value]"], unfollowed := true, recurses := true, named := ["provenance/core.arity"], apart := false, laid := [("provenance/core.arity", laid_provenance_core_arity)], narrowed := true }
def ContifyTwiceUptoSaid : Prop := contifyTwiceUptoRow.holds Tryz.pinned (OpenSpec.upto contifyTwiceSpec)

/-- 'provenancekeep2.LiftPlain', WHERE WHAT IT READS IS OF BULK AT MOST 1048576: true; the input reads as it did. -/
def liftPlainUptoRow : OpenClaim := { program := "ytpaonemmbhbgoaagreatdoor", sum := "b8d3ab3901da5a90fc0a6917d53fa4518a6d2665707fb3024c089f46027b4c81", func := "provenance/provenancekeep2.LiftPlain", spec := "liftPlain", inPlace := ["slices.overlaps[int]", "slices.overlaps[provenance/eval.value]"], unfollowed := true, recurses := true, named := ["provenance/core.arity"], apart := false, laid := [("provenance/core.arity", laid_provenance_core_arity)], narrowed := true }
def LiftPlainUptoSaid : Prop := liftPlainUptoRow.holds Tryz.pinned (OpenSpec.upto liftPlainSpec)

/-- 'provenancekeep2.SimplifyWords', WHERE WHAT IT READS IS OF BULK AT MOST 1048576: true; the input reads as it did. -/
def simplifyWordsUptoRow : OpenClaim := { program := "ytpaonemmbhbgoaagreatdoor", sum := "b8d3ab3901da5a90fc0a6917d53fa4518a6d2665707fb3024c089f46027b4c81", func := "provenance/provenancekeep2.SimplifyWords", spec := "simplifyWords", inPlace := ["slices.overlaps[int]", "slices.overlaps[provenance/eval.value]"], unfollowed := true, recurses := true, named := ["provenance/core.arity", "provenance/rewrite.order"], apart := false, laid := [("provenance/core.arity", laid_provenance_core_arity), ("provenance/rewrite.order", laid_provenance_rewrite_order)], narrowed := true }
def SimplifyWordsUptoSaid : Prop := simplifyWordsUptoRow.holds Tryz.pinned (OpenSpec.upto simplifyWordsSpec)

end Rows
end Go.Proofs.YtpaonemmbhbgoaaGreatDoor
