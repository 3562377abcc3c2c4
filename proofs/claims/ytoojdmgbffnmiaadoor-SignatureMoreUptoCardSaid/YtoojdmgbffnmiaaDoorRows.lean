/-
  NARROWER THAN 'FOR EVERY INPUT', by the rows' own cells (each row's printed sentence says how): SignatureSelf: loops, laid · SignatureThrough: loops, laid · SignatureSubst: loops, laid · SignatureTransitive: loops, laid · SignatureInstance: loops, laid · SignatureFewer: loops, laid · SignatureMore: loops, laid · FunctorTwice: loops, laid · FunctorEqual: loops, laid · FunctorNeeds: loops, laid.
  DERIVED. THE GIVEN ROWS OF THIS SEAT. 10 by the template 'for every input the law returns true; each argument reads behind the call as it read before'; 0 by the template 'total and deterministic' (their statements: YtoojdmgbffnmiaaDoorTotals.lean).
  GIVEN WITH THE SEED: the statements are not yours to turn. If you find one false, say at which input.
  Laid BY PROGRAM, IN A SANDBOX (cutbox-rows.mjs): the forced cells as the released guide's own fill.sh prints them over the translation c42bda901b5e246c… (all of the seat's roots in one cut). By AI agents, Wed Nov 11 2026. No macro, syntax, notation, axiom, sorry.
-/
import Derived.Test.YtoojdmgbffnmiaaDoorChecked
import GoSem.Claim
import GoSem.ClaimJoined
import GoSem.ClaimMapViews
import Derived.JoinedTies
import Derived.KernelRfl
namespace Go.Proofs.YtoojdmgbffnmiaaDoor
/- THE CELL 'sum', in the pinned program and in every row, IS THE sha256 OF THE DUMP (.gsa) THAT YtoojdmgbffnmiaaDoorProg.lean LOADS. Nothing in Lean hashes anything: it is a label: what it is worth is what the hold of that sum in a sandbox is worth. -/
noncomputable def Tryd.pinned : Pinned := { name := "ytoojdmgbffnmiaadoor", sum := "c42bda901b5e246c7bcdafb87b7cea41fa50aee32dab7ff40f55bdad16563316", checked := Tryd.checked }
namespace Rows
def none {H : Type} : Left H := { results := [], args := [] }

/- WHAT THE LISTED PACKAGE-LEVEL VARIABLES READ AS WHEN THE CALL BEGINS. Each datum BY PROGRAM (the guide's laid-datum.mjs) off the statement by which the dump's own 'gosem.cut.vars' lays the variable. In a bare row this is a premise. The card (YtoojdmgbffnmiaaDoorCards.lean) ties it to the program's text. -/
def laid_provenance_signature_arity {H : Type} : DataW H := .agg [.lit (.int .i64 0), .lit (.int .i64 (-1)), .lit (.int .i64 3), .lit (.int .i64 1), .lit (.int .i64 0), .lit (.int .i64 2)]
def laid_math_bits_deBruijn32tab {H : Type} : DataW H := .agg [.lit (.int .u8 0), .lit (.int .u8 1), .lit (.int .u8 28), .lit (.int .u8 2), .lit (.int .u8 29), .lit (.int .u8 14), .lit (.int .u8 24), .lit (.int .u8 3), .lit (.int .u8 30), .lit (.int .u8 22), .lit (.int .u8 20), .lit (.int .u8 15), .lit (.int .u8 25), .lit (.int .u8 17), .lit (.int .u8 4), .lit (.int .u8 8), .lit (.int .u8 31), .lit (.int .u8 27), .lit (.int .u8 13), .lit (.int .u8 23), .lit (.int .u8 21), .lit (.int .u8 19), .lit (.int .u8 16), .lit (.int .u8 7), .lit (.int .u8 26), .lit (.int .u8 12), .lit (.int .u8 18), .lit (.int .u8 6), .lit (.int .u8 11), .lit (.int .u8 5), .lit (.int .u8 10), .lit (.int .u8 9)]
def laid_math_bits_deBruijn64tab {H : Type} : DataW H := .agg [.lit (.int .u8 0), .lit (.int .u8 1), .lit (.int .u8 56), .lit (.int .u8 2), .lit (.int .u8 57), .lit (.int .u8 49), .lit (.int .u8 28), .lit (.int .u8 3), .lit (.int .u8 61), .lit (.int .u8 58), .lit (.int .u8 42), .lit (.int .u8 50), .lit (.int .u8 38), .lit (.int .u8 29), .lit (.int .u8 17), .lit (.int .u8 4), .lit (.int .u8 62), .lit (.int .u8 47), .lit (.int .u8 59), .lit (.int .u8 36), .lit (.int .u8 45), .lit (.int .u8 43), .lit (.int .u8 51), .lit (.int .u8 22), .lit (.int .u8 53), .lit (.int .u8 39), .lit (.int .u8 33), .lit (.int .u8 30), .lit (.int .u8 24), .lit (.int .u8 18), .lit (.int .u8 12), .lit (.int .u8 5), .lit (.int .u8 63), .lit (.int .u8 55), .lit (.int .u8 48), .lit (.int .u8 27), .lit (.int .u8 60), .lit (.int .u8 41), .lit (.int .u8 37), .lit (.int .u8 16), .lit (.int .u8 46), .lit (.int .u8 35), .lit (.int .u8 44), .lit (.int .u8 21), .lit (.int .u8 52), .lit (.int .u8 32), .lit (.int .u8 23), .lit (.int .u8 11), .lit (.int .u8 54), .lit (.int .u8 26), .lit (.int .u8 40), .lit (.int .u8 15), .lit (.int .u8 34), .lit (.int .u8 20), .lit (.int .u8 31), .lit (.int .u8 10), .lit (.int .u8 25), .lit (.int .u8 14), .lit (.int .u8 19), .lit (.int .u8 9), .lit (.int .u8 13), .lit (.int .u8 8), .lit (.int .u8 7), .lit (.int .u8 6)]
def laid_internal_strconv_uint64pow10 {H : Type} : DataW H := .agg [.lit (.int .u64 1), .lit (.int .u64 10), .lit (.int .u64 100), .lit (.int .u64 1000), .lit (.int .u64 10000), .lit (.int .u64 100000), .lit (.int .u64 1000000), .lit (.int .u64 10000000), .lit (.int .u64 100000000), .lit (.int .u64 1000000000), .lit (.int .u64 10000000000), .lit (.int .u64 100000000000), .lit (.int .u64 1000000000000), .lit (.int .u64 10000000000000), .lit (.int .u64 100000000000000), .lit (.int .u64 1000000000000000), .lit (.int .u64 10000000000000000), .lit (.int .u64 100000000000000000), .lit (.int .u64 1000000000000000000), .lit (.int .u64 10000000000000000000)]

/-- 'provenancekeep2.SignatureSelf': WHATEVER THE INPUT: true; the input reads as it did. -/
def signatureSelfSpec : ChangeSpec := { name := "signatureSelf", fn := fun _ => fun
  | [d] => { results := [.lit (.bool true)], args := [d] }
  | _ => none }
def signatureSelfRow : OpenClaim := { program := "ytoojdmgbffnmiaadoor", sum := "c42bda901b5e246c7bcdafb87b7cea41fa50aee32dab7ff40f55bdad16563316", func := "provenance/provenancekeep2.SignatureSelf", spec := "signatureSelf", inPlace := ["internal/bytealg.IndexByteString", "internal/bytealg.IndexString", "internal/bytealg.abigen_runtime_cmpstring"], unfollowed := true, recurses := true, named := ["provenance/signature.arity", "internal/bytealg.MaxLen"], loops := true, apart := false, laid := [("provenance/signature.arity", laid_provenance_signature_arity)] }
def SignatureSelfSaid : Prop := signatureSelfRow.holds Tryd.pinned (OpenSpec.ofChange signatureSelfSpec)

/-- ITS FALSE NEIGHBOUR: 'it returns false'. Refute it at one input. -/
def signatureSelfWrong : ChangeSpec := { name := "signatureSelf", fn := fun _ => fun
  | [d] => { results := [.lit (.bool false)], args := [d] }
  | _ => none }
def SignatureSelfWrongFalsely : Prop := signatureSelfRow.holds Tryd.pinned (OpenSpec.ofChange signatureSelfWrong)

/-- 'provenancekeep2.SignatureThrough': WHATEVER THE INPUT: true; the input reads as it did. -/
def signatureThroughSpec : ChangeSpec := { name := "signatureThrough", fn := fun _ => fun
  | [d1, d2, d3] => { results := [.lit (.bool true)], args := [d1, d2, d3] }
  | _ => none }
def signatureThroughRow : OpenClaim := { program := "ytoojdmgbffnmiaadoor", sum := "c42bda901b5e246c7bcdafb87b7cea41fa50aee32dab7ff40f55bdad16563316", func := "provenance/provenancekeep2.SignatureThrough", spec := "signatureThrough", inPlace := ["internal/bytealg.IndexByteString", "internal/bytealg.IndexString", "internal/bytealg.abigen_runtime_cmpstring"], unfollowed := true, recurses := true, named := ["provenance/signature.arity", "internal/bytealg.MaxLen"], loops := true, apart := false, laid := [("provenance/signature.arity", laid_provenance_signature_arity)] }
def SignatureThroughSaid : Prop := signatureThroughRow.holds Tryd.pinned (OpenSpec.ofChange signatureThroughSpec)

/-- ITS FALSE NEIGHBOUR: 'it returns false'. Refute it at one input. -/
def signatureThroughWrong : ChangeSpec := { name := "signatureThrough", fn := fun _ => fun
  | [d1, d2, d3] => { results := [.lit (.bool false)], args := [d1, d2, d3] }
  | _ => none }
def SignatureThroughWrongFalsely : Prop := signatureThroughRow.holds Tryd.pinned (OpenSpec.ofChange signatureThroughWrong)

/-- 'provenancekeep2.SignatureSubst': WHATEVER THE INPUT: true; the input reads as it did. -/
def signatureSubstSpec : ChangeSpec := { name := "signatureSubst", fn := fun _ => fun
  | [d] => { results := [.lit (.bool true)], args := [d] }
  | _ => none }
def signatureSubstRow : OpenClaim := { program := "ytoojdmgbffnmiaadoor", sum := "c42bda901b5e246c7bcdafb87b7cea41fa50aee32dab7ff40f55bdad16563316", func := "provenance/provenancekeep2.SignatureSubst", spec := "signatureSubst", inPlace := ["internal/bytealg.IndexByteString", "internal/bytealg.IndexString", "internal/bytealg.abigen_runtime_cmpstring"], unfollowed := true, recurses := true, named := ["provenance/signature.arity", "internal/bytealg.MaxLen"], loops := true, apart := false, laid := [("provenance/signature.arity", laid_provenance_signature_arity)] }
def SignatureSubstSaid : Prop := signatureSubstRow.holds Tryd.pinned (OpenSpec.ofChange signatureSubstSpec)

/-- ITS FALSE NEIGHBOUR: 'it returns false'. Refute it at one input. -/
def signatureSubstWrong : ChangeSpec := { name := "signatureSubst", fn := fun _ => fun
  | [d] => { results := [.lit (.bool false)], args := [d] }
  | _ => none }
def SignatureSubstWrongFalsely : Prop := signatureSubstRow.holds Tryd.pinned (OpenSpec.ofChange signatureSubstWrong)

/-- 'provenancekeep2.SignatureTransitive': WHATEVER THE INPUT: true; the input reads as it did. -/
def signatureTransitiveSpec : ChangeSpec := { name := "signatureTransitive", fn := fun _ => fun
  | [d1, d2, d3] => { results := [.lit (.bool true)], args := [d1, d2, d3] }
  | _ => none }
def signatureTransitiveRow : OpenClaim := { program := "ytoojdmgbffnmiaadoor", sum := "c42bda901b5e246c7bcdafb87b7cea41fa50aee32dab7ff40f55bdad16563316", func := "provenance/provenancekeep2.SignatureTransitive", spec := "signatureTransitive", inPlace := ["internal/bytealg.IndexByteString", "internal/bytealg.IndexString", "internal/bytealg.abigen_runtime_cmpstring"], unfollowed := true, recurses := true, named := ["provenance/signature.arity", "internal/bytealg.MaxLen"], loops := true, apart := false, laid := [("provenance/signature.arity", laid_provenance_signature_arity)] }
def SignatureTransitiveSaid : Prop := signatureTransitiveRow.holds Tryd.pinned (OpenSpec.ofChange signatureTransitiveSpec)

/-- ITS FALSE NEIGHBOUR: 'it returns false'. Refute it at one input. -/
def signatureTransitiveWrong : ChangeSpec := { name := "signatureTransitive", fn := fun _ => fun
  | [d1, d2, d3] => { results := [.lit (.bool false)], args := [d1, d2, d3] }
  | _ => none }
def SignatureTransitiveWrongFalsely : Prop := signatureTransitiveRow.holds Tryd.pinned (OpenSpec.ofChange signatureTransitiveWrong)

/-- 'provenancekeep2.SignatureInstance': WHATEVER THE INPUT: true; the input reads as it did. -/
def signatureInstanceSpec : ChangeSpec := { name := "signatureInstance", fn := fun _ => fun
  | [d1, d2] => { results := [.lit (.bool true)], args := [d1, d2] }
  | _ => none }
def signatureInstanceRow : OpenClaim := { program := "ytoojdmgbffnmiaadoor", sum := "c42bda901b5e246c7bcdafb87b7cea41fa50aee32dab7ff40f55bdad16563316", func := "provenance/provenancekeep2.SignatureInstance", spec := "signatureInstance", inPlace := ["internal/bytealg.IndexByteString", "internal/bytealg.IndexString", "internal/bytealg.abigen_runtime_cmpstring"], unfollowed := true, recurses := true, named := ["provenance/signature.arity", "internal/bytealg.MaxLen"], loops := true, apart := false, laid := [("provenance/signature.arity", laid_provenance_signature_arity)] }
def SignatureInstanceSaid : Prop := signatureInstanceRow.holds Tryd.pinned (OpenSpec.ofChange signatureInstanceSpec)

/-- ITS FALSE NEIGHBOUR: 'it returns false'. Refute it at one input. -/
def signatureInstanceWrong : ChangeSpec := { name := "signatureInstance", fn := fun _ => fun
  | [d1, d2] => { results := [.lit (.bool false)], args := [d1, d2] }
  | _ => none }
def SignatureInstanceWrongFalsely : Prop := signatureInstanceRow.holds Tryd.pinned (OpenSpec.ofChange signatureInstanceWrong)

/-- 'provenancekeep2.SignatureFewer': WHATEVER THE INPUT: true; the input reads as it did. -/
def signatureFewerSpec : ChangeSpec := { name := "signatureFewer", fn := fun _ => fun
  | [d1, d2, d3] => { results := [.lit (.bool true)], args := [d1, d2, d3] }
  | _ => none }
def signatureFewerRow : OpenClaim := { program := "ytoojdmgbffnmiaadoor", sum := "c42bda901b5e246c7bcdafb87b7cea41fa50aee32dab7ff40f55bdad16563316", func := "provenance/provenancekeep2.SignatureFewer", spec := "signatureFewer", inPlace := ["internal/bytealg.IndexByteString", "internal/bytealg.IndexString", "internal/bytealg.abigen_runtime_cmpstring"], unfollowed := true, recurses := true, named := ["provenance/signature.arity", "internal/bytealg.MaxLen"], loops := true, apart := false, laid := [("provenance/signature.arity", laid_provenance_signature_arity)] }
def SignatureFewerSaid : Prop := signatureFewerRow.holds Tryd.pinned (OpenSpec.ofChange signatureFewerSpec)

/-- ITS FALSE NEIGHBOUR: 'it returns false'. Refute it at one input. -/
def signatureFewerWrong : ChangeSpec := { name := "signatureFewer", fn := fun _ => fun
  | [d1, d2, d3] => { results := [.lit (.bool false)], args := [d1, d2, d3] }
  | _ => none }
def SignatureFewerWrongFalsely : Prop := signatureFewerRow.holds Tryd.pinned (OpenSpec.ofChange signatureFewerWrong)

/-- 'provenancekeep2.SignatureMore': WHATEVER THE INPUT: true; the input reads as it did. -/
def signatureMoreSpec : ChangeSpec := { name := "signatureMore", fn := fun _ => fun
  | [d1, d2, d3] => { results := [.lit (.bool true)], args := [d1, d2, d3] }
  | _ => none }
def signatureMoreRow : OpenClaim := { program := "ytoojdmgbffnmiaadoor", sum := "c42bda901b5e246c7bcdafb87b7cea41fa50aee32dab7ff40f55bdad16563316", func := "provenance/provenancekeep2.SignatureMore", spec := "signatureMore", inPlace := ["internal/bytealg.IndexByteString", "internal/bytealg.IndexString", "internal/bytealg.abigen_runtime_cmpstring", "slices.overlaps[provenance/api.ValSig]"], unfollowed := true, recurses := true, named := ["provenance/signature.arity", "internal/bytealg.MaxLen"], loops := true, apart := false, laid := [("provenance/signature.arity", laid_provenance_signature_arity)] }
def SignatureMoreSaid : Prop := signatureMoreRow.holds Tryd.pinned (OpenSpec.ofChange signatureMoreSpec)

/-- ITS FALSE NEIGHBOUR: 'it returns false'. Refute it at one input. -/
def signatureMoreWrong : ChangeSpec := { name := "signatureMore", fn := fun _ => fun
  | [d1, d2, d3] => { results := [.lit (.bool false)], args := [d1, d2, d3] }
  | _ => none }
def SignatureMoreWrongFalsely : Prop := signatureMoreRow.holds Tryd.pinned (OpenSpec.ofChange signatureMoreWrong)

/-- 'provenancekeep2.FunctorTwice': WHATEVER THE INPUT: true; the input reads as it did. -/
def functorTwiceSpec : ChangeSpec := { name := "functorTwice", fn := fun _ => fun
  | [d1, d2] => { results := [.lit (.bool true)], args := [d1, d2] }
  | _ => none }
def functorTwiceRow : OpenClaim := { program := "ytoojdmgbffnmiaadoor", sum := "c42bda901b5e246c7bcdafb87b7cea41fa50aee32dab7ff40f55bdad16563316", func := "provenance/provenancekeep2.FunctorTwice", spec := "functorTwice", inPlace := ["internal/bytealg.IndexByteString", "internal/bytealg.IndexString", "internal/bytealg.abigen_runtime_cmpstring"], unfollowed := true, recurses := true, named := ["provenance/signature.arity", "internal/strconv.uint64pow10", "math/bits.deBruijn32tab", "math/bits.deBruijn64tab", "internal/bytealg.MaxLen"], loops := true, apart := false, laid := [("math/bits.deBruijn32tab", laid_math_bits_deBruijn32tab), ("math/bits.deBruijn64tab", laid_math_bits_deBruijn64tab), ("internal/strconv.uint64pow10", laid_internal_strconv_uint64pow10), ("provenance/signature.arity", laid_provenance_signature_arity)] }
def FunctorTwiceSaid : Prop := functorTwiceRow.holds Tryd.pinned (OpenSpec.ofChange functorTwiceSpec)

/-- ITS FALSE NEIGHBOUR: 'it returns false'. Refute it at one input. -/
def functorTwiceWrong : ChangeSpec := { name := "functorTwice", fn := fun _ => fun
  | [d1, d2] => { results := [.lit (.bool false)], args := [d1, d2] }
  | _ => none }
def FunctorTwiceWrongFalsely : Prop := functorTwiceRow.holds Tryd.pinned (OpenSpec.ofChange functorTwiceWrong)

/-- 'provenancekeep2.FunctorEqual': WHATEVER THE INPUT: true; the input reads as it did. -/
def functorEqualSpec : ChangeSpec := { name := "functorEqual", fn := fun _ => fun
  | [d1, d2, d3, d4] => { results := [.lit (.bool true)], args := [d1, d2, d3, d4] }
  | _ => none }
def functorEqualRow : OpenClaim := { program := "ytoojdmgbffnmiaadoor", sum := "c42bda901b5e246c7bcdafb87b7cea41fa50aee32dab7ff40f55bdad16563316", func := "provenance/provenancekeep2.FunctorEqual", spec := "functorEqual", inPlace := ["internal/bytealg.IndexByteString", "internal/bytealg.IndexString", "internal/bytealg.abigen_runtime_cmpstring"], unfollowed := true, recurses := true, named := ["provenance/signature.arity", "internal/strconv.uint64pow10", "math/bits.deBruijn32tab", "math/bits.deBruijn64tab", "internal/bytealg.MaxLen"], loops := true, apart := false, laid := [("math/bits.deBruijn32tab", laid_math_bits_deBruijn32tab), ("math/bits.deBruijn64tab", laid_math_bits_deBruijn64tab), ("internal/strconv.uint64pow10", laid_internal_strconv_uint64pow10), ("provenance/signature.arity", laid_provenance_signature_arity)] }
def FunctorEqualSaid : Prop := functorEqualRow.holds Tryd.pinned (OpenSpec.ofChange functorEqualSpec)

/-- ITS FALSE NEIGHBOUR: 'it returns false'. Refute it at one input. -/
def functorEqualWrong : ChangeSpec := { name := "functorEqual", fn := fun _ => fun
  | [d1, d2, d3, d4] => { results := [.lit (.bool false)], args := [d1, d2, d3, d4] }
  | _ => none }
def FunctorEqualWrongFalsely : Prop := functorEqualRow.holds Tryd.pinned (OpenSpec.ofChange functorEqualWrong)

/-- 'provenancekeep2.FunctorNeeds': WHATEVER THE INPUT: true; the input reads as it did. -/
def functorNeedsSpec : ChangeSpec := { name := "functorNeeds", fn := fun _ => fun
  | [d1, d2] => { results := [.lit (.bool true)], args := [d1, d2] }
  | _ => none }
def functorNeedsRow : OpenClaim := { program := "ytoojdmgbffnmiaadoor", sum := "c42bda901b5e246c7bcdafb87b7cea41fa50aee32dab7ff40f55bdad16563316", func := "provenance/provenancekeep2.FunctorNeeds", spec := "functorNeeds", inPlace := ["internal/bytealg.IndexByteString", "internal/bytealg.IndexString", "internal/bytealg.abigen_runtime_cmpstring"], unfollowed := true, recurses := true, named := ["provenance/signature.arity", "internal/strconv.uint64pow10", "math/bits.deBruijn32tab", "math/bits.deBruijn64tab", "internal/bytealg.MaxLen"], loops := true, apart := false, laid := [("math/bits.deBruijn32tab", laid_math_bits_deBruijn32tab), ("math/bits.deBruijn64tab", laid_math_bits_deBruijn64tab), ("internal/strconv.uint64pow10", laid_internal_strconv_uint64pow10), ("provenance/signature.arity", laid_provenance_signature_arity)] }
def FunctorNeedsSaid : Prop := functorNeedsRow.holds Tryd.pinned (OpenSpec.ofChange functorNeedsSpec)

/-- ITS FALSE NEIGHBOUR: 'it returns false'. Refute it at one input. -/
def functorNeedsWrong : ChangeSpec := { name := "functorNeeds", fn := fun _ => fun
  | [d1, d2] => { results := [.lit (.bool false)], args := [d1, d2] }
  | _ => none }
def FunctorNeedsWrongFalsely : Prop := functorNeedsRow.holds Tryd.pinned (OpenSpec.ofChange functorNeedsWrong)

/- THE SECOND FORM. 'bulk': how many values and letters a reading holds, each counted each time it is reached (what is shared counts as often as it is met; a slice's spare places count too). A statement '..UptoSaid' is the law's where the arguments, and the package variables that the reading takes, are together of bulk at most 1048576: NARROWER than '..Said'. Prove '..Said' where nothing that the law and all that it calls make is longer than what came in: it says more and counts as full. Else prove '..UptoSaid'. A law counts once. -/
mutual
def uptoBulk {H : Type} : DataW H → Nat
  | .lit (.string bytes) => bytes.length + 1
  | .lit _ => 1
  | .nil => 1
  | .ptr d => uptoBulk d + 1
  | .slice elems spare => uptoBulkAll elems + uptoBulkAll spare + 1
  | .agg parts => uptoBulkAll parts + 1
  | .iface _ d => uptoBulk d + 1
  | .map entries => uptoBulkEntries entries + 1
  | .held _ => 1
def uptoBulkAll {H : Type} : List (DataW H) → Nat
  | [] => 0
  | d :: r => uptoBulk d + uptoBulkAll r
def uptoBulkEntries {H : Type} : List (Lit × DataW H) → Nat
  | [] => 0
  | x :: r => uptoBulkEntry x + uptoBulkEntries r
def uptoBulkEntry {H : Type} : Lit × DataW H → Nat
  | (.string bytes, d) => bytes.length + uptoBulk d + 1
  | (_, d) => uptoBulk d + 1
 end
def uptoSmall : (H : Type) → List (DataW H) → Bool := fun _ ds => decide (uptoBulkAll ds ≤ 1048576)
def OpenSpec.upto (s : _root_.Go.ChangeSpec) : _root_.Go.OpenSpec := { _root_.Go.OpenSpec.ofChange s with cond := some uptoSmall }

/-- 'provenancekeep2.SignatureSelf', WHERE WHAT IT READS IS OF BULK AT MOST 1048576: true; the input reads as it did. -/
def signatureSelfUptoRow : OpenClaim := { program := "ytoojdmgbffnmiaadoor", sum := "c42bda901b5e246c7bcdafb87b7cea41fa50aee32dab7ff40f55bdad16563316", func := "provenance/provenancekeep2.SignatureSelf", spec := "signatureSelf", inPlace := ["internal/bytealg.IndexByteString", "internal/bytealg.IndexString", "internal/bytealg.abigen_runtime_cmpstring"], unfollowed := true, recurses := true, named := ["provenance/signature.arity", "internal/bytealg.MaxLen"], loops := true, apart := false, laid := [("provenance/signature.arity", laid_provenance_signature_arity)], narrowed := true }
def SignatureSelfUptoSaid : Prop := signatureSelfUptoRow.holds Tryd.pinned (OpenSpec.upto signatureSelfSpec)

/-- 'provenancekeep2.SignatureThrough', WHERE WHAT IT READS IS OF BULK AT MOST 1048576: true; the input reads as it did. -/
def signatureThroughUptoRow : OpenClaim := { program := "ytoojdmgbffnmiaadoor", sum := "c42bda901b5e246c7bcdafb87b7cea41fa50aee32dab7ff40f55bdad16563316", func := "provenance/provenancekeep2.SignatureThrough", spec := "signatureThrough", inPlace := ["internal/bytealg.IndexByteString", "internal/bytealg.IndexString", "internal/bytealg.abigen_runtime_cmpstring"], unfollowed := true, recurses := true, named := ["provenance/signature.arity", "internal/bytealg.MaxLen"], loops := true, apart := false, laid := [("provenance/signature.arity", laid_provenance_signature_arity)], narrowed := true }
def SignatureThroughUptoSaid : Prop := signatureThroughUptoRow.holds Tryd.pinned (OpenSpec.upto signatureThroughSpec)

/-- 'provenancekeep2.SignatureSubst', WHERE WHAT IT READS IS OF BULK AT MOST 1048576: true; the input reads as it did. -/
def signatureSubstUptoRow : OpenClaim := { program := "ytoojdmgbffnmiaadoor", sum := "c42bda901b5e246c7bcdafb87b7cea41fa50aee32dab7ff40f55bdad16563316", func := "provenance/provenancekeep2.SignatureSubst", spec := "signatureSubst", inPlace := ["internal/bytealg.IndexByteString", "internal/bytealg.IndexString", "internal/bytealg.abigen_runtime_cmpstring"], unfollowed := true, recurses := true, named := ["provenance/signature.arity", "internal/bytealg.MaxLen"], loops := true, apart := false, laid := [("provenance/signature.arity", laid_provenance_signature_arity)], narrowed := true }
def SignatureSubstUptoSaid : Prop := signatureSubstUptoRow.holds Tryd.pinned (OpenSpec.upto signatureSubstSpec)

/-- 'provenancekeep2.SignatureTransitive', WHERE WHAT IT READS IS OF BULK AT MOST 1048576: true; the input reads as it did. -/
def signatureTransitiveUptoRow : OpenClaim := { program := "ytoojdmgbffnmiaadoor", sum := "c42bda901b5e246c7bcdafb87b7cea41fa50aee32dab7ff40f55bdad16563316", func := "provenance/provenancekeep2.SignatureTransitive", spec := "signatureTransitive", inPlace := ["internal/bytealg.IndexByteString", "internal/bytealg.IndexString", "internal/bytealg.abigen_runtime_cmpstring"], unfollowed := true, recurses := true, named := ["provenance/signature.arity", "internal/bytealg.MaxLen"], loops := true, apart := false, laid := [("provenance/signature.arity", laid_provenance_signature_arity)], narrowed := true }
def SignatureTransitiveUptoSaid : Prop := signatureTransitiveUptoRow.holds Tryd.pinned (OpenSpec.upto signatureTransitiveSpec)

/-- 'provenancekeep2.SignatureInstance', WHERE WHAT IT READS IS OF BULK AT MOST 1048576: true; the input reads as it did. -/
def signatureInstanceUptoRow : OpenClaim := { program := "ytoojdmgbffnmiaadoor", sum := "c42bda901b5e246c7bcdafb87b7cea41fa50aee32dab7ff40f55bdad16563316", func := "provenance/provenancekeep2.SignatureInstance", spec := "signatureInstance", inPlace := ["internal/bytealg.IndexByteString", "internal/bytealg.IndexString", "internal/bytealg.abigen_runtime_cmpstring"], unfollowed := true, recurses := true, named := ["provenance/signature.arity", "internal/bytealg.MaxLen"], loops := true, apart := false, laid := [("provenance/signature.arity", laid_provenance_signature_arity)], narrowed := true }
def SignatureInstanceUptoSaid : Prop := signatureInstanceUptoRow.holds Tryd.pinned (OpenSpec.upto signatureInstanceSpec)

/-- 'provenancekeep2.SignatureFewer', WHERE WHAT IT READS IS OF BULK AT MOST 1048576: true; the input reads as it did. -/
def signatureFewerUptoRow : OpenClaim := { program := "ytoojdmgbffnmiaadoor", sum := "c42bda901b5e246c7bcdafb87b7cea41fa50aee32dab7ff40f55bdad16563316", func := "provenance/provenancekeep2.SignatureFewer", spec := "signatureFewer", inPlace := ["internal/bytealg.IndexByteString", "internal/bytealg.IndexString", "internal/bytealg.abigen_runtime_cmpstring"], unfollowed := true, recurses := true, named := ["provenance/signature.arity", "internal/bytealg.MaxLen"], loops := true, apart := false, laid := [("provenance/signature.arity", laid_provenance_signature_arity)], narrowed := true }
def SignatureFewerUptoSaid : Prop := signatureFewerUptoRow.holds Tryd.pinned (OpenSpec.upto signatureFewerSpec)

/-- 'provenancekeep2.SignatureMore', WHERE WHAT IT READS IS OF BULK AT MOST 1048576: true; the input reads as it did. -/
def signatureMoreUptoRow : OpenClaim := { program := "ytoojdmgbffnmiaadoor", sum := "c42bda901b5e246c7bcdafb87b7cea41fa50aee32dab7ff40f55bdad16563316", func := "provenance/provenancekeep2.SignatureMore", spec := "signatureMore", inPlace := ["internal/bytealg.IndexByteString", "internal/bytealg.IndexString", "internal/bytealg.abigen_runtime_cmpstring", "slices.overlaps[provenance/api.ValSig]"], unfollowed := true, recurses := true, named := ["provenance/signature.arity", "internal/bytealg.MaxLen"], loops := true, apart := false, laid := [("provenance/signature.arity", laid_provenance_signature_arity)], narrowed := true }
def SignatureMoreUptoSaid : Prop := signatureMoreUptoRow.holds Tryd.pinned (OpenSpec.upto signatureMoreSpec)

/-- 'provenancekeep2.FunctorTwice', WHERE WHAT IT READS IS OF BULK AT MOST 1048576: true; the input reads as it did. -/
def functorTwiceUptoRow : OpenClaim := { program := "ytoojdmgbffnmiaadoor", sum := "c42bda901b5e246c7bcdafb87b7cea41fa50aee32dab7ff40f55bdad16563316", func := "provenance/provenancekeep2.FunctorTwice", spec := "functorTwice", inPlace := ["internal/bytealg.IndexByteString", "internal/bytealg.IndexString", "internal/bytealg.abigen_runtime_cmpstring"], unfollowed := true, recurses := true, named := ["provenance/signature.arity", "internal/strconv.uint64pow10", "math/bits.deBruijn32tab", "math/bits.deBruijn64tab", "internal/bytealg.MaxLen"], loops := true, apart := false, laid := [("math/bits.deBruijn32tab", laid_math_bits_deBruijn32tab), ("math/bits.deBruijn64tab", laid_math_bits_deBruijn64tab), ("internal/strconv.uint64pow10", laid_internal_strconv_uint64pow10), ("provenance/signature.arity", laid_provenance_signature_arity)], narrowed := true }
def FunctorTwiceUptoSaid : Prop := functorTwiceUptoRow.holds Tryd.pinned (OpenSpec.upto functorTwiceSpec)

/-- 'provenancekeep2.FunctorEqual', WHERE WHAT IT READS IS OF BULK AT MOST 1048576: true; the input reads as it did. -/
def functorEqualUptoRow : OpenClaim := { program := "ytoojdmgbffnmiaadoor", sum := "c42bda901b5e246c7bcdafb87b7cea41fa50aee32dab7ff40f55bdad16563316", func := "provenance/provenancekeep2.FunctorEqual", spec := "functorEqual", inPlace := ["internal/bytealg.IndexByteString", "internal/bytealg.IndexString", "internal/bytealg.abigen_runtime_cmpstring"], unfollowed := true, recurses := true, named := ["provenance/signature.arity", "internal/strconv.uint64pow10", "math/bits.deBruijn32tab", "math/bits.deBruijn64tab", "internal/bytealg.MaxLen"], loops := true, apart := false, laid := [("math/bits.deBruijn32tab", laid_math_bits_deBruijn32tab), ("math/bits.deBruijn64tab", laid_math_bits_deBruijn64tab), ("internal/strconv.uint64pow10", laid_internal_strconv_uint64pow10), ("provenance/signature.arity", laid_provenance_signature_arity)], narrowed := true }
def FunctorEqualUptoSaid : Prop := functorEqualUptoRow.holds Tryd.pinned (OpenSpec.upto functorEqualSpec)

/-- 'provenancekeep2.FunctorNeeds', WHERE WHAT IT READS IS OF BULK AT MOST 1048576: true; the input reads as it did. -/
def functorNeedsUptoRow : OpenClaim := { program := "ytoojdmgbffnmiaadoor", sum := "c42bda901b5e246c7bcdafb87b7cea41fa50aee32dab7ff40f55bdad16563316", func := "provenance/provenancekeep2.FunctorNeeds", spec := "functorNeeds", inPlace := ["internal/bytealg.IndexByteString", "internal/bytealg.IndexString", "internal/bytealg.abigen_runtime_cmpstring"], unfollowed := true, recurses := true, named := ["provenance/signature.arity", "internal/strconv.uint64pow10", "math/bits.deBruijn32tab", "math/bits.deBruijn64tab", "internal/bytealg.MaxLen"], loops := true, apart := false, laid := [("math/bits.deBruijn32tab", laid_math_bits_deBruijn32tab), ("math/bits.deBruijn64tab", laid_math_bits_deBruijn64tab), ("internal/strconv.uint64pow10", laid_internal_strconv_uint64pow10), ("provenance/signature.arity", laid_provenance_signature_arity)], narrowed := true }
def FunctorNeedsUptoSaid : Prop := functorNeedsUptoRow.holds Tryd.pinned (OpenSpec.upto functorNeedsSpec)

end Rows
end Go.Proofs.YtoojdmgbffnmiaaDoor
