/- TopReplay: it answers true at every input of bulk at most 1048576, its arguments read as they did; the arities are listed and tied to the program. -/
import Derived.Test.YtpaonemmbhbgoaaGreatDoorR15
import Derived.Test.YtpaonemmbhbgoaaGreatDoorCards
import Derived.Test.YtpaonemmbhbgoaaGreatDoorTie
import Derived.WalkKit
namespace Go.Proofs.YtpaonemmbhbgoaaGreatDoor.topReplay
open Go Go.Abs Go.CoreX Go.ChangeShapes Go.WideShapes Go.ChangeAt Go.RowKit
set_option linter.unusedVariables false
set_option maxRecDepth 20000
theorem own:ownKnob Tryz.prog.godebug=none:=by kernel_rfl
theorem Qo0:∀t∈Tryz.f4.params.toList,Tryz.prog.readableRec t=true/\t < Tryz.prog.types.size:=by
 rw[Tryz.params4]
 intro t ht
 simp at ht
 rcases ht with rfl|rfl <;> exact⟨by kernel_rfl,of_decide_eq_true (by kernel_rfl)⟩
theorem contract(H:Type)(enc:TypeId×Value->H)(W:World)(base:Nat)(args:Array Value)(ds gs:List (DataW H))(before:List MemPlace)
  (hval:∀(j:Nat) t v,Tryz.f4.params[j]?=some t->args[j]?=some v->Value.okWide Tryz.prog W .any base t v)
  (hW:DataW.Whole enc Tryz.prog Tryz.f4.params.toList Rows.topReplaySpec.vars false W args.toList ds gs before) (hk:Rows.uptoSmall H (ds++gs)=true) (hL:laidMetH Tryz.prog Rows.topReplayUptoRow.laid W):
  Calls Tryz.prog 4 args W fun e W'=>∃v,e=.returned v/\Rows.topReplaySpec.post enc Tryz.prog Tryz.f4 false true false false W args v W':=by
 have hW':=hW
 obtain⟨p,q,hA0,hV,rfl,hfz,hnd⟩:=hW
 have hA:DataW.TrodAll enc Tryz.prog W 0 (fun _=>true) true Tryz.f4.params.toList args.toList ds p:=hA0
 rw[Tryz.params4]at hA hval
 obtain⟨v0,vs0,d0,ds0,p0,q0,hargs0,rfl,rfl,h0,r0⟩:=trodAll_cons hA
 obtain⟨v1,vs1,d1,ds1,p1,q1,hargs1,rfl,rfl,h1,r1⟩:=trodAll_cons r0
 obtain⟨v2,vs2,d2,ds2,p2,q2,hargs2,rfl,rfl,h2,r2⟩:=trodAll_cons r1
 obtain⟨rfl,rfl,rfl⟩:=trodAll_nil r2
 subst hargs2
 subst hargs1
 obtain rfl:args=#[v0,v1,v2]:=by cases args;simp_all
 have hV0:=hV
 obtain⟨rfl,rfl⟩:=trodVars_none hV0
 obtain⟨fu0,hf0⟩:=h0
 obtain⟨a0,hr0,hb0⟩:=Qo6 fu0 v0.cells.toList _ hf0
 obtain⟨fu1,hf1⟩:=h1
 obtain⟨a1,hr1,hb1⟩:=Q49 fu1 v1.cells.toList _ hf1
 obtain⟨fu2,hf2⟩:=h2
 obtain⟨a2,hr2,hb2⟩:=Q49 fu2 v2.cells.toList _ hf2
 have hkk:Rows.uptoBulkAll ([d0,d1,d2]:List (DataW H))<=1048576:=by
  unfold Rows.uptoSmall at hk
  simp only[List.append_nil,decide_eq_true_eq]at hk
  exact hk
 simp only[Rows.uptoBulkAll]at hkk
 simp only at hb0
 simp only at hb1
 simp only at hb2
 have hv0:RF W (ctx0 W) (.one (.sl 5 (a0.map cEx))) v0:=Qnz Tryz.underlying22 (hval 0 22 v0 rfl rfl) hr0
 have hv1:RF W (ctx0 W) (.one (int a1.1)) v1:=rf_int Tryz.underlying3 (hval 1 3 v1 rfl rfl) hr1
 have hv2:RF W (ctx0 W) (.one (int a2.1)) v2:=rf_int Tryz.underlying3 (hval 2 3 v2 rfl rfl) hr2
 have ha:RFs W (ctx0 W) [.one (.sl 5 (a0.map cEx)),.one (int a1.1),.one (int a2.1)] [v0,v1,v2]:=⟨v0,_,rfl,hv0,⟨v1,_,rfl,hv1,⟨v2,_,rfl,hv2,rfl⟩⟩⟩
 have hc:=(Qff a0 (okB_of (by omega)) a1.1 a2.1).calls (Qfu hL) ha
 exact Qe2 (by kernel_rfl) Qo0 rfl Tryz.underlying4 (by kernel_rfl) hW' rfl hc
noncomputable def Q9v (os:Os):World :=
 { World.holding Tryz.prog os ⟨#[], #[], []⟩ with heap := (((World.holding Tryz.prog os ⟨#[], #[], []⟩).heap.modify 0 fun
   |.cells _ t frozen=>.cells #[.int .i64 3,.int .i64 4,.int .i64 6,.int .i64 7,.int .i64 5,.int .i64 1,.int .i64 2,.int .i64 11,.int .i64 8,.int .i64 9] t frozen
   |o=>o).modify 1 fun
   |.cells _ t frozen=>.cells #[.int .i64 2,.int .i64 2,.int .i64 2,.int .i64 2,.int .i64 2,.int .i64 2,.int .i64 2,.int .i64 1,.int .i64 2,.int .i64 1,.int .i64 2,.int .i64 3] t frozen
   |o=>o) }
theorem Qof(os:Os):laidMet Tryz.prog Rows.topReplayUptoRow.laid ((Q9v os).forCall (fun _ _=>0) ⟨#[],#[.slice none 0 0,.int .i64 0,.int .i64 0],[]⟩).memory:=
 laidMet_of_run' 8 (by kernel_rfl) (by kernel_rfl)
theorem reads(os:Os){H:Type}(enc:TypeId×Value->H):∃places,DataW.whole enc Tryz.prog ((Q9v os).forCall (fun _ _=>0) ⟨#[],#[.slice none 0 0,.int .i64 0,.int .i64 0],[]⟩).memory Tryz.f4.params.toList Rows.topReplaySpec.vars false ((#[.slice none 0 0,.int .i64 0,.int .i64 0]:Array Value)).toList 8=some ([.nil,.lit (.int .i64 0),.lit (.int .i64 0)],[],places):=
 ⟨[],by kernel_rfl⟩
set_option maxRecDepth 100000 in
theorem Qjk(os:Os)(started:os.Started)(H:Type)(enc:TypeId×Value->H)(F:Stop.Interp):
  ReturnsInHanded {} Tryz.checked os 4 .any ((Rows.OpenSpec.upto Rows.topReplaySpec).preRow enc Tryz.prog Tryz.f4 Rows.topReplayUptoRow.domain false Rows.topReplayUptoRow.laid) (((Rows.OpenSpec.upto Rows.topReplaySpec).at F).post enc Tryz.prog Tryz.f4 false true false false):=by
 obtain⟨places,hx⟩:=reads os enc
 refine returnsInHanded_of_row (C:=Tryz.checked) (s:=Rows.OpenSpec.upto Rows.topReplaySpec) own started (by kernel_rfl) Tryz.func4
  (witness_row_at (enc := enc) (C := Tryz.checked) false (Q9v os) #[.slice none 0 0, .int .i64 0, .int .i64 0] rfl (by kernel_rfl) (by kernel_rfl) (by kernel_rfl)
   (OpenSpec.preRow_of_cond 8 hx (by kernel_rfl) (fun k hk=>by cases hk;kernel_rfl) (by kernel_rfl) (Qof os))) ?_
 intro W base args ds gs before hval hW _ hcond _ hL _ _
 exact contract H enc W base args ds gs before hval hW (hcond _ rfl) hL
theorem saidUpto:Rows.TopReplayUptoSaid:=
 OpenClaim.holds_of_cond 4 Tryz.f4 rfl rfl rfl rfl rfl rfl rfl ⟨rfl,rfl,rfl,rfl,rfl⟩ rfl rfl rfl rfl rfl (by kernel_rfl) Tryz.func4 (by kernel_rfl)
  (of_decide_eq_true (by kernel_rfl)) (by unfold Func.isWrapper;first|(rw[if_pos (by decide +kernel)];kernel_rfl)|(rw[if_neg (by decide +kernel)];exact⟨rfl,rfl⟩))
  (fun os started H enc _ F=>by rw[OpenClaim.pre_eq_preRow];exact Qjk os started H enc F)
theorem plain(f:FuncId)(fn:Func)(hf:Tryz.pinned.checked.prog.funcNamed "provenance/provenancetop.TopReplay" = some f)(hfn:Tryz.pinned.checked.prog.funcs[f]?=some fn):
  true=Tryz.pinned.checked.prog.looks []/\∀(j:Nat) t,fn.params[j]?=some t->Tryz.pinned.checked.prog.wantsStandIn t=false:=by
 obtain rfl:f=4:=Option.some.inj ((show Tryz.prog.funcNamed "provenance/provenancetop.TopReplay" = some 4 by kernel_rfl).symm.trans hf) |>.symm
 obtain rfl:fn=Tryz.f4:=(Option.some.inj (Tryz.func4.symm.trans hfn)).symm
 refine⟨by kernel_rfl,fun j t ht=>?_⟩
 have hm:t∈Tryz.f4.params.toList:=by simpa using Array.mem_of_getElem? ht
 rw[Tryz.params4]at hm
 simp at hm
 rcases hm with rfl|rfl <;> first|exact (show Tryz.prog.wantsStandIn 22=false by kernel_rfl)|exact (show Tryz.prog.wantsStandIn 3=false by kernel_rfl)
theorem card_upto:Rows.TopReplayUptoCardSaid:=
 Claim7.holds_tied_plain_at .later [] _ _ _ _ saidUpto (fun _ h=>by cases h) (by kernel_rfl) (fun _ h=>by cases h) topReplayUpto_row_tie rfl ⟨rfl,rfl⟩ (by kernel_rfl) rfl plain (by kernel_rfl)
end Go.Proofs.YtpaonemmbhbgoaaGreatDoor.topReplay
