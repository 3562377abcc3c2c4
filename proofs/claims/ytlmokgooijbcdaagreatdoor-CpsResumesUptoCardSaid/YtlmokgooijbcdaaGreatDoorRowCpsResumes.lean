/- CpsResumes: it answers true at every input of bulk at most 1048576, its arguments read as they did; the arities are listed and tied to the program. -/
import Derived.Test.YtlmokgooijbcdaaGreatDoorE8
import Derived.Test.YtlmokgooijbcdaaGreatDoorCards
import Derived.Test.YtlmokgooijbcdaaGreatDoorTie
import Derived.WalkKit
namespace Go.Proofs.YtlmokgooijbcdaaGreatDoor.cpsResumes
open Go Go.Abs Go.CoreX Go.ChangeShapes Go.WideShapes Go.ChangeAt Go.RowKit
set_option linter.unusedVariables false
set_option maxRecDepth 20000
theorem own:ownKnob Tryz.prog.godebug=none:=by kernel_rfl
theorem Qos:∀t∈Tryz.f4.params.toList,Tryz.prog.readableRec t=true/\t < Tryz.prog.types.size:=by rw[Tryz.params4];intro t ht;simp at ht;rcases ht with rfl|rfl <;> exact⟨by kernel_rfl,of_decide_eq_true zky⟩
theorem opensIs{H:Type}{enc:TypeId×Value->H}{w:World}(n:Nat):Opens enc Tryz.prog w Rows.uptoBulk 32 n (fun l:List I64=>[.sl 1 (l.map fun i=>[int i.1])]) (fun l=>wtAll (fun _=>1) l+1):=
 Qfz Tryz.underlying32 (s:=1) zky zoy n (fun m _=>Qed m)
theorem contract(H:Type)(enc:TypeId×Value->H)(W:World)(base:Nat)(args:Array Value)(ds gs:List (DataW H))(before:List MemPlace)
  (hval:∀(j:Nat) t v,Tryz.f4.params[j]?=some t->args[j]?=some v->Value.okWide Tryz.prog W .any base t v)
  (hW:DataW.Whole enc Tryz.prog Tryz.f4.params.toList Rows.cpsResumesSpec.vars false W args.toList ds gs before) (hk:Rows.uptoSmall H (ds++gs)=true) (hL:laidMetH Tryz.prog Rows.cpsResumesUptoRow.laid W):
  Calls Tryz.prog 4 args W fun e W'=>∃v,e=.returned v/\Rows.cpsResumesSpec.post enc Tryz.prog Tryz.f4 false true false false W args v W':=by
 have hW':=hW;obtain⟨p,q,hA0,hV,rfl,hfz,hnd⟩:=hW;have hA:DataW.TrodAll enc Tryz.prog W 0 (fun _=>true) true Tryz.f4.params.toList args.toList ds p:=hA0;rw[Tryz.params4]at hA hval;obtain⟨v0,vs0,d0,ds0,p0,q0,hargs0,rfl,rfl,h0,r0⟩:=trodAll_cons hA;obtain⟨v1,vs1,d1,ds1,p1,q1,hargs1,rfl,rfl,h1,r1⟩:=trodAll_cons r0;obtain⟨rfl,rfl,rfl⟩:=trodAll_nil r1;subst hargs1;obtain rfl:args=#[v0,v1]:=by cases args;simp_all
 have hV0:=hV;obtain⟨rfl,rfl⟩:=trodVars_none hV0;obtain⟨fu0,hf0⟩:=h0;obtain⟨a0,hr0,hb0⟩:=Qed fu0 v0.cells.toList _ hf0;obtain⟨fu1,hf1⟩:=h1;obtain⟨a1,hr1,hb1⟩:=opensIs fu1 v1.cells.toList _ hf1;have hkk:Rows.uptoBulkAll ([d0,d1]:List (DataW H))<=1048576:=by unfold Rows.uptoSmall at hk;simp only[Z02,decide_eq_true_eq]at hk;exact hk
 simp only[Rows.uptoBulkAll]at hkk;simp only at hb0;simp only at hb1;have hv0:RF W (ctx0 W) (.one (int a0.1)) v0:=rf_int Z42 (hval 0 3 v0 rfl rfl) hr0;have hv1:RF W (ctx0 W) (.one (.sl 1 ((a1.map (·.1)).map cI))) v1:=by have:=Qor Tryz.underlying32 (hval 1 32 v1 rfl rfl) hr1;rw[Z1i];exact this
 have ha:RFs W (ctx0 W) [.one (int a0.1),.one (.sl 1 ((a1.map (·.1)).map cI))] [v0,v1]:=⟨v0,_,rfl,hv0,⟨v1,_,rfl,hv1,rfl⟩⟩;have hc:=(Qds a0.1 (a1.map (·.1))).calls (Qjx hL) ha;exact Qe4 zky Qos rfl Tryz.underlying4 zky hW' rfl hc
noncomputable def Qac (os:Os):World:=
 { World.holding Tryz.prog os ⟨#[],#[],[]⟩with heap:=(((World.holding Tryz.prog os ⟨#[],#[],[]⟩).heap.modify 2 fun
   |.cells _ t frozen=>.cells #[.int .u8 0,.int .u8 1,.int .u8 56,.int .u8 2,.int .u8 57,.int .u8 49,.int .u8 28,.int .u8 3,.int .u8 61,.int .u8 58,.int .u8 42,.int .u8 50,.int .u8 38,.int .u8 29,.int .u8 17,.int .u8 4,.int .u8 62,.int .u8 47,.int .u8 59,.int .u8 36,.int .u8 45,.int .u8 43,.int .u8 51,.int .u8 22,.int .u8 53,.int .u8 39,.int .u8 33,.int .u8 30,.int .u8 24,.int .u8 18,.int .u8 12,.int .u8 5,.int .u8 63,.int .u8 55,.int .u8 48,.int .u8 27,.int .u8 60,.int .u8 41,.int .u8 37,.int .u8 16,.int .u8 46,.int .u8 35,.int .u8 44,.int .u8 21,.int .u8 52,.int .u8 32,.int .u8 23,.int .u8 11,.int .u8 54,.int .u8 26,.int .u8 40,.int .u8 15,.int .u8 34,.int .u8 20,.int .u8 31,.int .u8 10,.int .u8 25,.int .u8 14,.int .u8 19,.int .u8 9,.int .u8 13,.int .u8 8,.int .u8 7,.int .u8 6] t frozen
   |o=>o).modify 1 fun
   |.cells _ t frozen=>.cells #[.int .i64 2,.int .i64 2,.int .i64 2,.int .i64 2,.int .i64 2,.int .i64 2,.int .i64 2,.int .i64 1,.int .i64 2,.int .i64 1,.int .i64 2,.int .i64 3] t frozen
   |o=>o) }
theorem Qpi(os:Os):laidMet Tryz.prog Rows.cpsResumesUptoRow.laid ((Qac os).forCall (fun _ _=>0) ⟨#[],#[.int .i64 0,.slice none 0 0],[]⟩).memory:=
 laidMet_of_run' 8 zky zky
theorem reads(os:Os){H:Type}(enc:TypeId×Value->H):∃places,DataW.whole enc Tryz.prog ((Qac os).forCall (fun _ _=>0) ⟨#[],#[.int .i64 0,.slice none 0 0],[]⟩).memory Tryz.f4.params.toList Rows.cpsResumesSpec.vars false ((#[.int .i64 0,.slice none 0 0]:Array Value)).toList 8=some ([.lit (.int .i64 0),.nil],[],places):=
 ⟨[],by kernel_rfl⟩
set_option maxRecDepth 100000 in
theorem Qjl(os:Os)(started:os.Started)(H:Type)(enc:TypeId×Value->H)(F:Stop.Interp):
  ReturnsInHanded {} Tryz.checked os 4 .any ((Rows.OpenSpec.upto Rows.cpsResumesSpec).preRow enc Tryz.prog Tryz.f4 Rows.cpsResumesUptoRow.domain false Rows.cpsResumesUptoRow.laid) (((Rows.OpenSpec.upto Rows.cpsResumesSpec).at F).post enc Tryz.prog Tryz.f4 false true false false):=by
 obtain⟨places,hx⟩:=reads os enc;refine returnsInHanded_of_row (C:=Tryz.checked) (s:=Rows.OpenSpec.upto Rows.cpsResumesSpec) own started zky Tryz.func4
  (witness_row_at (enc:=enc) (C:=Tryz.checked) false (Qac os) #[.int .i64 0,.slice none 0 0] rfl zky zky zky
   (OpenSpec.preRow_of_cond 8 hx zky (fun k hk=>by cases hk;kernel_rfl) zky (Qpi os))) ?_
 intro W base args ds gs before hval hW _ Qyk _ hL _ _;exact contract H enc W base args ds gs before hval hW (Qyk _ rfl) hL
theorem saidUpto:Rows.CpsResumesUptoSaid:=
 OpenClaim.holds_of_cond 4 Tryz.f4 rfl rfl rfl rfl rfl rfl rfl ⟨rfl,rfl,rfl,rfl,rfl⟩ rfl rfl rfl rfl rfl zky Tryz.func4 zky
  (of_decide_eq_true zky) (by unfold Func.isWrapper;first|(rw[if_pos (by decide +kernel)];kernel_rfl)|(rw[if_neg (by decide +kernel)];exact⟨rfl,rfl⟩))
  (fun os started H enc _ F=>by rw[OpenClaim.pre_eq_preRow];exact Qjl os started H enc F)
theorem plain(f:FuncId)(fn:Func)(hf:Tryz.pinned.checked.prog.funcNamed "provenance/provenancekeep2.CpsResumes" = some f)(hfn:Tryz.pinned.checked.prog.funcs[f]?=some fn):
  true=Tryz.pinned.checked.prog.looks []/\∀(j:Nat) t,fn.params[j]?=some t->Tryz.pinned.checked.prog.wantsStandIn t=false:=by
 obtain rfl:f=4:=Z3n ((show Tryz.prog.funcNamed "provenance/provenancekeep2.CpsResumes" = some 4 by kernel_rfl).symm.trans hf) |>.symm;obtain rfl:fn=Tryz.f4:=(Z3n (Tryz.func4.symm.trans hfn)).symm;refine⟨by kernel_rfl,fun j t ht=>?_⟩;have hm:t∈Tryz.f4.params.toList:=by simpa using Array.mem_of_getElem? ht
 rw[Tryz.params4]at hm;simp at hm;rcases hm with rfl|rfl <;> first|exact (show Tryz.prog.wantsStandIn 3=false by kernel_rfl)|exact (show Tryz.prog.wantsStandIn 32=false by kernel_rfl)
theorem card_upto:Rows.CpsResumesUptoCardSaid:=
 Claim7.holds_tied_plain_at .later [] _ _ _ _ saidUpto (fun _ h=>by cases h) zky (fun _ h=>by cases h) cpsResumesUpto_row_tie rfl ⟨rfl,rfl⟩ zky rfl plain zky
end Go.Proofs.YtlmokgooijbcdaaGreatDoor.cpsResumes
