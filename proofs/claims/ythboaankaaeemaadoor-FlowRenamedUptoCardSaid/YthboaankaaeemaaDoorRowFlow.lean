/- FlowRenamed: it answers true at every input of bulk at most 1048576, its arguments read as they did; the arities are listed and tied to the program. -/
import Derived.Test.YthboaankaaeemaaDoorC12
import Derived.Test.YthboaankaaeemaaDoorCards
import Derived.Test.YthboaankaaeemaaDoorTie
import Derived.WalkKit
namespace Go.Proofs.YthboaankaaeemaaDoor.flowRenamed
open Go Go.Abs Go.CoreX Go.ChangeShapes Go.WideShapes Go.ChangeAt Go.RowKit
set_option linter.unusedVariables false
set_option maxRecDepth 20000
theorem own:ownKnob Tryd.prog.godebug=none:=by kernel_rfl
theorem Qkn:∀t∈Tryd.f5.params.toList,Tryd.prog.readableRec t=true/\t < Tryd.prog.types.size:=by
 rw[Tryd.params5]
 intro t ht
 simp at ht
 rcases ht with rfl|rfl <;> exact⟨by kernel_rfl,of_decide_eq_true (by kernel_rfl)⟩
theorem contract(H:Type)(enc:TypeId×Value->H)(W:World)(base:Nat)(args:Array Value)(ds gs:List (DataW H))(before:List MemPlace)
  (hval:∀(j:Nat) t v,Tryd.f5.params[j]?=some t->args[j]?=some v->Value.okWide Tryd.prog W .any base t v)
  (hW:DataW.Whole enc Tryd.prog Tryd.f5.params.toList Rows.flowRenamedSpec.vars false W args.toList ds gs before) (hk:Rows.uptoSmall H (ds++gs)=true) (hL:laidMetH Tryd.prog Rows.flowRenamedUptoRow.laid W):
  Calls Tryd.prog 5 args W fun e W'=>∃v,e=.returned v/\Rows.flowRenamedSpec.post enc Tryd.prog Tryd.f5 false true false false W args v W':=by
 have hW':=hW
 obtain⟨p,q,hA0,hV,rfl,hfz,hnd⟩:=hW
 have hA:DataW.TrodAll enc Tryd.prog W 0 (fun _=>true) true Tryd.f5.params.toList args.toList ds p:=hA0
 rw[Tryd.params5]at hA hval
 obtain⟨v0,vs0,d0,ds0,p0,q0,hargs0,rfl,rfl,h0,r0⟩:=trodAll_cons hA
 obtain⟨v1,vs1,d1,ds1,p1,q1,hargs1,rfl,rfl,h1,r1⟩:=trodAll_cons r0
 obtain⟨rfl,rfl,rfl⟩:=trodAll_nil r1
 subst hargs1
 obtain rfl:args=#[v0,v1]:=by cases args;simp_all
 have hV0:=hV
 obtain⟨rfl,rfl⟩:=trodVars_none hV0
 obtain⟨fu0,hf0⟩:=h0
 obtain⟨a0,hr0,hb0⟩:=Qkp fu0 v0.cells.toList _ hf0
 obtain⟨fu1,hf1⟩:=h1
 obtain⟨a1,hr1,hb1⟩:=Q4f fu1 v1.cells.toList _ hf1
 have hkk:Rows.uptoBulkAll ([d0,d1]:List (DataW H))<=1048576:=by
  unfold Rows.uptoSmall at hk
  simp only[List.append_nil,decide_eq_true_eq]at hk
  exact hk
 simp only[Rows.uptoBulkAll]at hkk
 simp only at hb0
 simp only at hb1
 have hv0:RF W (ctx0 W) (.one (.sl 5 (a0.map cEx))) v0:=Qkm Tryd.underlying22 (hval 0 22 v0 rfl rfl) hr0
 have hv1:RF W (ctx0 W) (.one (int a1.1)) v1:=rf_int Tryd.underlying3 (hval 1 3 v1 rfl rfl) hr1
 have ha:RFs W (ctx0 W) [.one (.sl 5 (a0.map cEx)),.one (int a1.1)] [v0,v1]:=⟨v0,_,rfl,hv0,⟨v1,_,rfl,hv1,rfl⟩⟩
 have hc:=(Q97 a0 (okB_of (by omega)) a1.1).calls (Qgt hL) ha
 exact Qbz (by kernel_rfl) Qkn rfl Tryd.underlying4 (by kernel_rfl) hW' rfl hc
noncomputable def Q85 (os:Os):World :=
 { World.holding Tryd.prog os ⟨#[], #[], []⟩ with heap := (((World.holding Tryd.prog os ⟨#[], #[], []⟩).heap.modify 0 fun
   |.cells _ t frozen=>.cells #[.int .u8 0,.int .u8 1,.int .u8 56,.int .u8 2,.int .u8 57,.int .u8 49,.int .u8 28,.int .u8 3,.int .u8 61,.int .u8 58,.int .u8 42,.int .u8 50,.int .u8 38,.int .u8 29,.int .u8 17,.int .u8 4,.int .u8 62,.int .u8 47,.int .u8 59,.int .u8 36,.int .u8 45,.int .u8 43,.int .u8 51,.int .u8 22,.int .u8 53,.int .u8 39,.int .u8 33,.int .u8 30,.int .u8 24,.int .u8 18,.int .u8 12,.int .u8 5,.int .u8 63,.int .u8 55,.int .u8 48,.int .u8 27,.int .u8 60,.int .u8 41,.int .u8 37,.int .u8 16,.int .u8 46,.int .u8 35,.int .u8 44,.int .u8 21,.int .u8 52,.int .u8 32,.int .u8 23,.int .u8 11,.int .u8 54,.int .u8 26,.int .u8 40,.int .u8 15,.int .u8 34,.int .u8 20,.int .u8 31,.int .u8 10,.int .u8 25,.int .u8 14,.int .u8 19,.int .u8 9,.int .u8 13,.int .u8 8,.int .u8 7,.int .u8 6] t frozen
   |o=>o).modify 1 fun
   |.cells _ t frozen=>.cells #[.int .i64 2,.int .i64 2,.int .i64 2,.int .i64 2,.int .i64 2,.int .i64 2,.int .i64 2,.int .i64 1,.int .i64 2,.int .i64 1,.int .i64 2,.int .i64 3] t frozen
   |o=>o) }
theorem Qlh(os:Os):laidMet Tryd.prog Rows.flowRenamedUptoRow.laid ((Q85 os).forCall (fun _ _=>0) ⟨#[],#[.slice none 0 0,.int .i64 0],[]⟩).memory:=
 laidMet_of_run' 8 (by kernel_rfl) (by kernel_rfl)
theorem reads(os:Os){H:Type}(enc:TypeId×Value->H):∃places,DataW.whole enc Tryd.prog ((Q85 os).forCall (fun _ _=>0) ⟨#[],#[.slice none 0 0,.int .i64 0],[]⟩).memory Tryd.f5.params.toList Rows.flowRenamedSpec.vars false ((#[.slice none 0 0,.int .i64 0]:Array Value)).toList 8=some ([.nil,.lit (.int .i64 0)],[],places):=
 ⟨[],by kernel_rfl⟩
set_option maxRecDepth 100000 in
theorem Qgk(os:Os)(started:os.Started)(H:Type)(enc:TypeId×Value->H)(F:Stop.Interp):
  ReturnsInHanded {} Tryd.checked os 5 .any ((Rows.OpenSpec.upto Rows.flowRenamedSpec).preRow enc Tryd.prog Tryd.f5 Rows.flowRenamedUptoRow.domain false Rows.flowRenamedUptoRow.laid) (((Rows.OpenSpec.upto Rows.flowRenamedSpec).at F).post enc Tryd.prog Tryd.f5 false true false false):=by
 obtain⟨places,hx⟩:=reads os enc
 refine returnsInHanded_of_row (C:=Tryd.checked) (s:=Rows.OpenSpec.upto Rows.flowRenamedSpec) own started (by kernel_rfl) Tryd.func5
  (witness_row_at (enc := enc) (C := Tryd.checked) false (Q85 os) #[.slice none 0 0, .int .i64 0] rfl (by kernel_rfl) (by kernel_rfl) (by kernel_rfl)
   (OpenSpec.preRow_of_cond 8 hx (by kernel_rfl) (fun k hk=>by cases hk;kernel_rfl) (by kernel_rfl) (Qlh os))) ?_
 intro W base args ds gs before hval hW _ hcond _ hL _ _
 exact contract H enc W base args ds gs before hval hW (hcond _ rfl) hL
theorem saidUpto:Rows.FlowRenamedUptoSaid:=
 OpenClaim.holds_of_cond 5 Tryd.f5 rfl rfl rfl rfl rfl rfl rfl ⟨rfl,rfl,rfl,rfl,rfl⟩ rfl rfl rfl rfl rfl (by kernel_rfl) Tryd.func5 (by kernel_rfl)
  (of_decide_eq_true (by kernel_rfl)) (by unfold Func.isWrapper;first|(rw[if_pos (by decide +kernel)];kernel_rfl)|(rw[if_neg (by decide +kernel)];exact⟨rfl,rfl⟩))
  (fun os started H enc _ F=>by rw[OpenClaim.pre_eq_preRow];exact Qgk os started H enc F)
theorem plain(f:FuncId)(fn:Func)(hf:Tryd.pinned.checked.prog.funcNamed "provenance/provenancekeep2.FlowRenamed" = some f)(hfn:Tryd.pinned.checked.prog.funcs[f]?=some fn):
  true=Tryd.pinned.checked.prog.looks []/\∀(j:Nat) t,fn.params[j]?=some t->Tryd.pinned.checked.prog.wantsStandIn t=false:=by
 obtain rfl:f=5:=Option.some.inj ((show Tryd.prog.funcNamed "provenance/provenancekeep2.FlowRenamed" = some 5 by kernel_rfl).symm.trans hf) |>.symm
 obtain rfl:fn=Tryd.f5:=(Option.some.inj (Tryd.func5.symm.trans hfn)).symm
 refine⟨by kernel_rfl,fun j t ht=>?_⟩
 have hm:t∈Tryd.f5.params.toList:=by simpa using Array.mem_of_getElem? ht
 rw[Tryd.params5]at hm
 simp at hm
 rcases hm with rfl|rfl <;> first|exact (show Tryd.prog.wantsStandIn 22=false by kernel_rfl)|exact (show Tryd.prog.wantsStandIn 3=false by kernel_rfl)
theorem card_upto:Rows.FlowRenamedUptoCardSaid:=
 Claim7.holds_tied_plain_at .later [] _ _ _ _ saidUpto (fun _ h=>by cases h) (by kernel_rfl) (fun _ h=>by cases h) flowRenamedUpto_row_tie rfl ⟨rfl,rfl⟩ (by kernel_rfl) rfl plain (by kernel_rfl)
end Go.Proofs.YthboaankaaeemaaDoor.flowRenamed
