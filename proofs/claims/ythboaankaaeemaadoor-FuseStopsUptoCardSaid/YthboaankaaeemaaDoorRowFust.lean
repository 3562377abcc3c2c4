/- FuseStops: it answers true at every input of bulk at most 1048576, its arguments read as they did; the arities are listed and tied to the program. -/
import Derived.Test.YthboaankaaeemaaDoorE11
import Derived.Test.YthboaankaaeemaaDoorCards
import Derived.Test.YthboaankaaeemaaDoorTie
import Derived.WalkKit
namespace Go.Proofs.YthboaankaaeemaaDoor.fuseStops
open Go Go.Abs Go.CoreX Go.ChangeShapes Go.WideShapes Go.ChangeAt Go.RowKit
set_option linter.unusedVariables false
set_option maxRecDepth 20000
theorem own:ownKnob Tryd.prog.godebug=none:=by kernel_rfl
theorem Qii:∀t∈Tryd.f6.params.toList,Tryd.prog.readableRec t=true/\t < Tryd.prog.types.size:=by
 rw[Tryd.params6]
 intro t ht
 simp at ht
 subst ht <;> exact⟨by kernel_rfl,of_decide_eq_true (by kernel_rfl)⟩
theorem contract(H:Type)(enc:TypeId×Value->H)(W:World)(base:Nat)(args:Array Value)(ds gs:List (DataW H))(before:List MemPlace)
  (hval:∀(j:Nat) t v,Tryd.f6.params[j]?=some t->args[j]?=some v->Value.okWide Tryd.prog W .any base t v)
  (hW:DataW.Whole enc Tryd.prog Tryd.f6.params.toList Rows.fuseStopsSpec.vars false W args.toList ds gs before) (hk:Rows.uptoSmall H (ds++gs)=true) (hL:laidMetH Tryd.prog Rows.fuseStopsUptoRow.laid W):
  Calls Tryd.prog 6 args W fun e W'=>∃v,e=.returned v/\Rows.fuseStopsSpec.post enc Tryd.prog Tryd.f6 false true false false W args v W':=by
 have hW':=hW
 obtain⟨p,q,hA0,hV,rfl,hfz,hnd⟩:=hW
 have hA:DataW.TrodAll enc Tryd.prog W 0 (fun _=>true) true Tryd.f6.params.toList args.toList ds p:=hA0
 rw[Tryd.params6]at hA hval
 obtain⟨v0,vs0,d0,ds0,p0,q0,hargs0,rfl,rfl,h0,r0⟩:=trodAll_cons hA
 obtain⟨rfl,rfl,rfl⟩:=trodAll_nil r0
 obtain rfl:args=#[v0]:=by cases args;simp_all
 have hV0:=hV
 obtain⟨rfl,rfl⟩:=trodVars_none hV0
 obtain⟨fu0,hf0⟩:=h0
 obtain⟨a0,hr0,hb0⟩:=Qil fu0 v0.cells.toList _ hf0
 have hkk:Rows.uptoBulkAll ([d0]:List (DataW H))<=1048576:=by
  unfold Rows.uptoSmall at hk
  simp only[List.append_nil,decide_eq_true_eq]at hk
  exact hk
 simp only[Rows.uptoBulkAll]at hkk
 simp only at hb0
 have hv0:RF W (ctx0 W) (.one (.sl 5 (a0.map cEx))) v0:=Qih Tryd.underlying22 (hval 0 22 v0 rfl rfl) hr0
 have ha:RFs W (ctx0 W) [.one (.sl 5 (a0.map cEx))] [v0]:=⟨v0,_,rfl,hv0,rfl⟩
 have hc:=(Qcp a0 (okB_of (by omega))).calls (Qdh hL) ha
 exact Qba (by kernel_rfl) Qii rfl Tryd.underlying4 (by kernel_rfl) hW' rfl hc
noncomputable def Q7l (os:Os):World :=
 { World.holding Tryd.prog os ⟨#[], #[], []⟩ with heap := ((World.holding Tryd.prog os ⟨#[], #[], []⟩).heap.modify 1 fun
   |.cells _ t frozen=>.cells #[.int .i64 2,.int .i64 2,.int .i64 2,.int .i64 2,.int .i64 2,.int .i64 2,.int .i64 2,.int .i64 1,.int .i64 2,.int .i64 1,.int .i64 2,.int .i64 3] t frozen
   |o=>o) }
theorem Qiy(os:Os):laidMet Tryd.prog Rows.fuseStopsUptoRow.laid ((Q7l os).forCall (fun _ _=>0) ⟨#[],#[.slice none 0 0],[]⟩).memory:=
 laidMet_of_run' 8 (by kernel_rfl) (by kernel_rfl)
theorem reads(os:Os){H:Type}(enc:TypeId×Value->H):∃places,DataW.whole enc Tryd.prog ((Q7l os).forCall (fun _ _=>0) ⟨#[],#[.slice none 0 0],[]⟩).memory Tryd.f6.params.toList Rows.fuseStopsSpec.vars false ((#[.slice none 0 0]:Array Value)).toList 8=some ([.nil],[],places):=
 ⟨[],by kernel_rfl⟩
set_option maxRecDepth 100000 in
theorem Qfh(os:Os)(started:os.Started)(H:Type)(enc:TypeId×Value->H)(F:Stop.Interp):
  ReturnsInHanded {} Tryd.checked os 6 .any ((Rows.OpenSpec.upto Rows.fuseStopsSpec).preRow enc Tryd.prog Tryd.f6 Rows.fuseStopsUptoRow.domain false Rows.fuseStopsUptoRow.laid) (((Rows.OpenSpec.upto Rows.fuseStopsSpec).at F).post enc Tryd.prog Tryd.f6 false true false false):=by
 obtain⟨places,hx⟩:=reads os enc
 refine returnsInHanded_of_row (C:=Tryd.checked) (s:=Rows.OpenSpec.upto Rows.fuseStopsSpec) own started (by kernel_rfl) Tryd.func6
  (witness_row_at (enc := enc) (C := Tryd.checked) false (Q7l os) #[.slice none 0 0] rfl (by kernel_rfl) (by kernel_rfl) (by kernel_rfl)
   (OpenSpec.preRow_of_cond 8 hx (by kernel_rfl) (fun k hk=>by cases hk;kernel_rfl) (by kernel_rfl) (Qiy os))) ?_
 intro W base args ds gs before hval hW _ hcond _ hL _ _
 exact contract H enc W base args ds gs before hval hW (hcond _ rfl) hL
theorem saidUpto:Rows.FuseStopsUptoSaid:=
 OpenClaim.holds_of_cond 6 Tryd.f6 rfl rfl rfl rfl rfl rfl rfl ⟨rfl,rfl,rfl,rfl,rfl⟩ rfl rfl rfl rfl rfl (by kernel_rfl) Tryd.func6 (by kernel_rfl)
  (of_decide_eq_true (by kernel_rfl)) (by unfold Func.isWrapper;first|(rw[if_pos (by decide +kernel)];kernel_rfl)|(rw[if_neg (by decide +kernel)];exact⟨rfl,rfl⟩))
  (fun os started H enc _ F=>by rw[OpenClaim.pre_eq_preRow];exact Qfh os started H enc F)
theorem plain(f:FuncId)(fn:Func)(hf:Tryd.pinned.checked.prog.funcNamed "provenance/provenancekeep2.FuseStops" = some f)(hfn:Tryd.pinned.checked.prog.funcs[f]?=some fn):
  true=Tryd.pinned.checked.prog.looks []/\∀(j:Nat) t,fn.params[j]?=some t->Tryd.pinned.checked.prog.wantsStandIn t=false:=by
 obtain rfl:f=6:=Option.some.inj ((show Tryd.prog.funcNamed "provenance/provenancekeep2.FuseStops" = some 6 by kernel_rfl).symm.trans hf) |>.symm
 obtain rfl:fn=Tryd.f6:=(Option.some.inj (Tryd.func6.symm.trans hfn)).symm
 refine⟨by kernel_rfl,fun j t ht=>?_⟩
 have hm:t∈Tryd.f6.params.toList:=by simpa using Array.mem_of_getElem? ht
 rw[Tryd.params6]at hm
 simp at hm
 subst hm <;> first|exact (show Tryd.prog.wantsStandIn 22=false by kernel_rfl)
theorem card_upto:Rows.FuseStopsUptoCardSaid:=
 Claim7.holds_tied_plain_at .later [] _ _ _ _ saidUpto (fun _ h=>by cases h) (by kernel_rfl) (fun _ h=>by cases h) fuseStopsUpto_row_tie rfl ⟨rfl,rfl⟩ (by kernel_rfl) rfl plain (by kernel_rfl)
end Go.Proofs.YthboaankaaeemaaDoor.fuseStops
