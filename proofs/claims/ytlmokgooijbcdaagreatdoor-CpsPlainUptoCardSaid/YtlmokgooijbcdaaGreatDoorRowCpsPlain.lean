/- CpsPlain: it answers true at every input of bulk at most 1048576, its arguments read as they did; the arities are listed and tied to the program. -/
import Derived.Test.YtlmokgooijbcdaaGreatDoorD8
import Derived.Test.YtlmokgooijbcdaaGreatDoorCards
import Derived.Test.YtlmokgooijbcdaaGreatDoorTie
import Derived.WalkKit
namespace Go.Proofs.YtlmokgooijbcdaaGreatDoor.cpsPlain
open Go Go.Abs Go.CoreX Go.ChangeShapes Go.WideShapes Go.ChangeAt Go.RowKit
set_option linter.unusedVariables false
set_option maxRecDepth 20000
theorem own:ownKnob Tryz.prog.godebug=none:=by kernel_rfl
theorem Qs5:∀t∈Tryz.f5.params.toList,Tryz.prog.readableRec t=true/\t < Tryz.prog.types.size:=by rw[Tryz.params5];intro t ht;simp at ht;subst ht <;> exact⟨by kernel_rfl,of_decide_eq_true zky⟩
theorem contract(H:Type)(enc:TypeId×Value->H)(W:World)(base:Nat)(args:Array Value)(ds gs:List (DataW H))(before:List MemPlace)
  (hval:∀(j:Nat) t v,Tryz.f5.params[j]?=some t->args[j]?=some v->Value.okWide Tryz.prog W .any base t v)
  (hW:DataW.Whole enc Tryz.prog Tryz.f5.params.toList Rows.cpsPlainSpec.vars false W args.toList ds gs before) (hk:Rows.uptoSmall H (ds++gs)=true) (hL:laidMetH Tryz.prog Rows.cpsPlainUptoRow.laid W):
  Calls Tryz.prog 5 args W fun e W'=>∃v,e=.returned v/\Rows.cpsPlainSpec.post enc Tryz.prog Tryz.f5 false true false false W args v W':=by
 have hW':=hW;obtain⟨p,q,hA0,hV,rfl,hfz,hnd⟩:=hW;have hA:DataW.TrodAll enc Tryz.prog W 0 (fun _=>true) true Tryz.f5.params.toList args.toList ds p:=hA0;rw[Tryz.params5]at hA hval;obtain⟨v0,vs0,d0,ds0,p0,q0,hargs0,rfl,rfl,h0,r0⟩:=trodAll_cons hA;obtain⟨rfl,rfl,rfl⟩:=trodAll_nil r0;obtain rfl:args=#[v0]:=by cases args;simp_all
 have hV0:=hV;obtain⟨rfl,rfl⟩:=trodVars_none hV0;obtain⟨fu0,hf0⟩:=h0;obtain⟨a0,hr0,hb0⟩:=Qsa fu0 v0.cells.toList _ hf0;have hkk:Rows.uptoBulkAll ([d0]:List (DataW H))<=1048576:=by unfold Rows.uptoSmall at hk;simp only[Z3f,decide_eq_true_eq]at hk;exact hk
 simp only[Rows.uptoBulkAll]at hkk;simp only at hb0;have hv0:RF W (ctx0 W) (.one (.sl 5 (a0.map cEx))) v0:=Qs4 Tryz.underlying33 (hval 0 33 v0 rfl rfl) hr0;have ha:RFs W (ctx0 W) [.one (.sl 5 (a0.map cEx))] [v0]:=⟨v0,_,rfl,hv0,rfl⟩;have hc:=(Qjv Qna a0 (okB_of zoy) (Qtu zoy)).calls (Qn4 hL) ha;exact Qgq zky Qs5 rfl Tryz.underlying4 zky hW' rfl hc
noncomputable def Qcm (os:Os):World:=
 { World.holding Tryz.prog os ⟨#[],#[],[]⟩with heap:=(((World.holding Tryz.prog os ⟨#[],#[],[]⟩).heap.modify 2 fun
   |.cells _ t frozen=>.cells (dbZ.map (Value.int .u8)).toArray t frozen
   |o=>o).modify 1 fun
   |.cells _ t frozen=>.cells #[.int .i64 2,.int .i64 2,.int .i64 2,.int .i64 2,.int .i64 2,.int .i64 2,.int .i64 2,.int .i64 1,.int .i64 2,.int .i64 1,.int .i64 2,.int .i64 3] t frozen
   |o=>o) }
theorem Qt0(os:Os):laidMet Tryz.prog Rows.cpsPlainUptoRow.laid ((Qcm os).forCall (fun _ _=>0) ⟨#[],#[.slice none 0 0],[]⟩).memory:=
 laidMet_of_run' 8 zky zky
theorem reads(os:Os){H:Type}(enc:TypeId×Value->H):∃places,DataW.whole enc Tryz.prog ((Qcm os).forCall (fun _ _=>0) ⟨#[],#[.slice none 0 0],[]⟩).memory Tryz.f5.params.toList Rows.cpsPlainSpec.vars false ((#[.slice none 0 0]:Array Value)).toList 8=some ([.nil],[],places):=
 ⟨[],by kernel_rfl⟩
set_option maxRecDepth 100000 in
theorem Qmp(os:Os)(started:os.Started)(H:Type)(enc:TypeId×Value->H)(F:Stop.Interp):
  ReturnsInHanded {} Tryz.checked os 5 .any ((Rows.OpenSpec.upto Rows.cpsPlainSpec).preRow enc Tryz.prog Tryz.f5 Rows.cpsPlainUptoRow.domain false Rows.cpsPlainUptoRow.laid) (((Rows.OpenSpec.upto Rows.cpsPlainSpec).at F).post enc Tryz.prog Tryz.f5 false true false false):=by
 obtain⟨places,hx⟩:=reads os enc;refine returnsInHanded_of_row (C:=Tryz.checked) (s:=Rows.OpenSpec.upto Rows.cpsPlainSpec) own started zky Tryz.func5
  (witness_row_at (enc:=enc) (C:=Tryz.checked) false (Qcm os) #[.slice none 0 0] rfl zky zky zky
   (OpenSpec.preRow_of_cond 8 hx zky (fun k hk=>by cases hk;kernel_rfl) zky (Qt0 os))) ?_
 intro W base args ds gs before hval hW _ Z2e _ hL _ _;exact contract H enc W base args ds gs before hval hW (Z2e _ rfl) hL
theorem saidUpto:Rows.CpsPlainUptoSaid:=
 OpenClaim.holds_of_cond 5 Tryz.f5 rfl rfl rfl rfl rfl rfl rfl ⟨rfl,rfl,rfl,rfl,rfl⟩ rfl rfl rfl rfl rfl zky Tryz.func5 zky
  (of_decide_eq_true zky) (by unfold Func.isWrapper;first|(rw[if_pos (by decide +kernel)];kernel_rfl)|(rw[if_neg (by decide +kernel)];exact⟨rfl,rfl⟩))
  (fun os started H enc _ F=>by rw[OpenClaim.pre_eq_preRow];exact Qmp os started H enc F)
theorem plain(f:FuncId)(fn:Func)(hf:Tryz.pinned.checked.prog.funcNamed "provenance/provenancekeep2.CpsPlain" = some f)(hfn:Tryz.pinned.checked.prog.funcs[f]?=some fn):
  true=Tryz.pinned.checked.prog.looks []/\∀(j:Nat) t,fn.params[j]?=some t->Tryz.pinned.checked.prog.wantsStandIn t=false:=by
 obtain rfl:f=5:=Z6y ((show Tryz.prog.funcNamed "provenance/provenancekeep2.CpsPlain" = some 5 by kernel_rfl).symm.trans hf) |>.symm;obtain rfl:fn=Tryz.f5:=(Z6y (Tryz.func5.symm.trans hfn)).symm;refine⟨by kernel_rfl,fun j t ht=>?_⟩;have hm:t∈Tryz.f5.params.toList:=by simpa using Array.mem_of_getElem? ht
 rw[Tryz.params5]at hm;simp at hm;subst hm <;> first|exact (show Tryz.prog.wantsStandIn 33=false by kernel_rfl)
theorem card_upto:Rows.CpsPlainUptoCardSaid:=
 Claim7.holds_tied_plain_at .later [] _ _ _ _ saidUpto (fun _ h=>by cases h) zky (fun _ h=>by cases h) cpsPlainUpto_row_tie rfl ⟨rfl,rfl⟩ zky rfl plain zky
end Go.Proofs.YtlmokgooijbcdaaGreatDoor.cpsPlain
