/- FlatCore: it answers true at every input of bulk at most 1048576, its arguments read as they did; the arities are listed and tied to the program. -/
import Derived.Test.YtkgjldchcbfpnaaGreatDoorF13
import Derived.Test.YtkgjldchcbfpnaaGreatDoorCards
import Derived.Test.YtkgjldchcbfpnaaGreatDoorTie
import Derived.WalkKit
namespace Go.Proofs.YtkgjldchcbfpnaaGreatDoor.flatCore
open Go Go.Abs Go.CoreX Go.ChangeShapes Go.WideShapes Go.ChangeAt Go.RowKit
set_option linter.unusedVariables false
set_option maxRecDepth 20000
theorem own:ownKnob Tryz.prog.godebug=none:=by kernel_rfl
theorem Qhy:∀t∈Tryz.f4.params.toList,Tryz.prog.readableRec t=true/\t < Tryz.prog.types.size:=by
 rw[Tryz.params4]
 intro t ht
 simp at ht
 subst ht <;> exact⟨by kernel_rfl,of_decide_eq_true (by kernel_rfl)⟩
theorem contract(H:Type)(enc:TypeId×Value->H)(W:World)(base:Nat)(args:Array Value)(ds gs:List (DataW H))(before:List MemPlace)
  (hval:∀(j:Nat) t v,Tryz.f4.params[j]?=some t->args[j]?=some v->Value.okWide Tryz.prog W .any base t v)
  (hW:DataW.Whole enc Tryz.prog Tryz.f4.params.toList Rows.flatCoreSpec.vars false W args.toList ds gs before) (hk:Rows.uptoSmall H (ds++gs)=true) (hL:laidMetH Tryz.prog Rows.flatCoreUptoRow.laid W):
  Calls Tryz.prog 4 args W fun e W'=>∃v,e=.returned v/\Rows.flatCoreSpec.post enc Tryz.prog Tryz.f4 false true false false W args v W':=by
 have hW':=hW
 obtain⟨p,q,hA0,hV,rfl,hfz,hnd⟩:=hW
 have hA:DataW.TrodAll enc Tryz.prog W 0 (fun _=>true) true Tryz.f4.params.toList args.toList ds p:=hA0
 rw[Tryz.params4]at hA hval
 obtain⟨v0,vs0,d0,ds0,p0,q0,hargs0,rfl,rfl,h0,r0⟩:=trodAll_cons hA
 obtain⟨rfl,rfl,rfl⟩:=trodAll_nil r0
 obtain rfl:args=#[v0]:=by cases args;simp_all
 have hV0:=hV
 obtain⟨rfl,rfl⟩:=trodVars_none hV0
 obtain⟨fu0,hf0⟩:=h0
 obtain⟨a0,hr0,hb0⟩:=Qi7 fu0 v0.cells.toList _ hf0
 have hkk:Rows.uptoBulkAll ([d0]:List (DataW H))<=1048576:=by
  unfold Rows.uptoSmall at hk
  simp only[List.append_nil,decide_eq_true_eq]at hk
  exact hk
 simp only[Rows.uptoBulkAll]at hkk
 simp only at hb0
 have hv0:RF W (ctx0 W) (.one (.sl 5 (a0.map cEx))) v0:=Qhx Tryz.underlying34 (hval 0 34 v0 rfl rfl) hr0
 have ha:RFs W (ctx0 W) [.one (.sl 5 (a0.map cEx))] [v0]:=⟨v0,_,rfl,hv0,rfl⟩
 have hc:=(Qbs a0 (okB_of (by omega))).calls (Qbn hL) ha
 exact Q9u (by kernel_rfl) Qhy rfl Tryz.underlying4 (by kernel_rfl) hW' rfl hc
noncomputable def Q6r (os:Os):World :=
 { World.holding Tryz.prog os ⟨#[], #[], []⟩ with heap := ((World.holding Tryz.prog os ⟨#[], #[], []⟩).heap.modify 1 fun
   |.cells _ t frozen=>.cells #[.int .i64 2,.int .i64 2,.int .i64 2,.int .i64 2,.int .i64 2,.int .i64 2,.int .i64 2,.int .i64 1,.int .i64 2,.int .i64 1,.int .i64 2,.int .i64 3] t frozen
   |o=>o) }
theorem Qie(os:Os):laidMet Tryz.prog Rows.flatCoreUptoRow.laid ((Q6r os).forCall (fun _ _=>0) ⟨#[],#[.slice none 0 0],[]⟩).memory:=
 laidMet_of_run' 8 (by kernel_rfl) (by kernel_rfl)
theorem reads(os:Os){H:Type}(enc:TypeId×Value->H):∃places,DataW.whole enc Tryz.prog ((Q6r os).forCall (fun _ _=>0) ⟨#[],#[.slice none 0 0],[]⟩).memory Tryz.f4.params.toList Rows.flatCoreSpec.vars false ((#[.slice none 0 0]:Array Value)).toList 8=some ([.nil],[],places):=
 ⟨[],by kernel_rfl⟩
set_option maxRecDepth 100000 in
theorem Qdw(os:Os)(started:os.Started)(H:Type)(enc:TypeId×Value->H)(F:Stop.Interp):
  ReturnsInHanded {} Tryz.checked os 4 .any ((Rows.OpenSpec.upto Rows.flatCoreSpec).preRow enc Tryz.prog Tryz.f4 Rows.flatCoreUptoRow.domain false Rows.flatCoreUptoRow.laid) (((Rows.OpenSpec.upto Rows.flatCoreSpec).at F).post enc Tryz.prog Tryz.f4 false true false false):=by
 obtain⟨places,hx⟩:=reads os enc
 refine returnsInHanded_of_row (C:=Tryz.checked) (s:=Rows.OpenSpec.upto Rows.flatCoreSpec) own started (by kernel_rfl) Tryz.func4
  (witness_row_at (enc := enc) (C := Tryz.checked) false (Q6r os) #[.slice none 0 0] rfl (by kernel_rfl) (by kernel_rfl) (by kernel_rfl)
   (OpenSpec.preRow_of_cond 8 hx (by kernel_rfl) (fun k hk=>by cases hk;kernel_rfl) (by kernel_rfl) (Qie os))) ?_
 intro W base args ds gs before hval hW _ hcond _ hL _ _
 exact contract H enc W base args ds gs before hval hW (hcond _ rfl) hL
theorem saidUpto:Rows.FlatCoreUptoSaid:=
 OpenClaim.holds_of_cond 4 Tryz.f4 rfl rfl rfl rfl rfl rfl rfl ⟨rfl,rfl,rfl,rfl,rfl⟩ rfl rfl rfl rfl rfl (by kernel_rfl) Tryz.func4 (by kernel_rfl)
  (of_decide_eq_true (by kernel_rfl)) (by unfold Func.isWrapper;first|(rw[if_pos (by decide +kernel)];kernel_rfl)|(rw[if_neg (by decide +kernel)];exact⟨rfl,rfl⟩))
  (fun os started H enc _ F=>by rw[OpenClaim.pre_eq_preRow];exact Qdw os started H enc F)
theorem plain(f:FuncId)(fn:Func)(hf:Tryz.pinned.checked.prog.funcNamed "provenance/provenancekeep2.FlatCore" = some f)(hfn:Tryz.pinned.checked.prog.funcs[f]?=some fn):
  true=Tryz.pinned.checked.prog.looks []/\∀(j:Nat) t,fn.params[j]?=some t->Tryz.pinned.checked.prog.wantsStandIn t=false:=by
 obtain rfl:f=4:=Option.some.inj ((show Tryz.prog.funcNamed "provenance/provenancekeep2.FlatCore" = some 4 by kernel_rfl).symm.trans hf) |>.symm
 obtain rfl:fn=Tryz.f4:=(Option.some.inj (Tryz.func4.symm.trans hfn)).symm
 refine⟨by kernel_rfl,fun j t ht=>?_⟩
 have hm:t∈Tryz.f4.params.toList:=by simpa using Array.mem_of_getElem? ht
 rw[Tryz.params4]at hm
 simp at hm
 subst hm <;> first|exact (show Tryz.prog.wantsStandIn 34=false by kernel_rfl)
theorem card_upto:Rows.FlatCoreUptoCardSaid:=
 Claim7.holds_tied_plain_at .later [] _ _ _ _ saidUpto (fun _ h=>by cases h) (by kernel_rfl) (fun _ h=>by cases h) flatCoreUpto_row_tie rfl ⟨rfl,rfl⟩ (by kernel_rfl) rfl plain (by kernel_rfl)
end Go.Proofs.YtkgjldchcbfpnaaGreatDoor.flatCore
