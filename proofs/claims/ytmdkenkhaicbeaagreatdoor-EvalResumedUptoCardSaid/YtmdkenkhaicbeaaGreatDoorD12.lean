/- The evaluator's primitives of two words, whatever they are given, walked. -/
import Derived.Test.YtmdkenkhaicbeaaGreatDoorD11
set_option maxRecDepth 10000
set_option linter.unusedVariables false
set_option linter.unusedSimpArgs false
namespace Go.Proofs.YtmdkenkhaicbeaaGreatDoor
open Go Go.Abs Go.CoreX
variable {Γ:List (Nat×List AC)}
section
variable {fu:Int}{fc:FcT}{fns:List Fun}{ou:Outer}{H:Hm}{nm:Nm2}{m:Ms}{tc ec vc kc:AC}
def PlE (fu:Int)(fc:FcT)(H:Hm)(nm:Nm2)(x:Except Int (Ms×Vl))(tc ec vc kc:AC):FV->Outer->Prop:=fun r ou'=>∃m1 v,x=.ok (m1,v)/\PlQ fu fc H nm m1 v tc ec vc kc r ou'
def PlP (m:Ms)(x:Except Int (Ms×Vl)):List PanicEntry->Outer->Prop:=fun ps ou'=>∃c,x=.error c/\ps=trapE c/\PR ou' m
theorem Q16{N:Nat}{ds:List Deferred}{o:Oper}{fr:Fr}{σ:St}{f:Operand}{x:Operand}{tys:Array TypeId}{c:AC}{K:Cont}{frb:Fr}(hΓ:∀g cs,(g,cs)∈Γ->idsL isO cs)(hc:notT 3 c)(hi:c.ids isO)(ho:o.op=.call { callee:=.value f,args:=#[x],argTypes:=tys })
  (hf:aEval Γ fr f=some (.one (.fn (.func 189) [] []))) (hx:aEval Γ fr x=some (.one c)) (hou:OuOk σ.ou) (hk:∀ps,ps=trapE 5->K (.panic ps) frb σ):Q0x ⟨Tryz.prog,tab,Γ,N,ds⟩ o fr σ (fun _ _=>False) (fun ps σ'=>K (.panic ps) frb σ'):=
 Q0x.callP (E:=⟨Tryz.prog,tab,Γ,N,ds⟩) (vs:=[.one c]) (us:=[.one c]) hΓ (Qc8 hΓ hc _) ho hf (by simp[Q1l,hx]) rfl ⟨hi,trivial⟩ hou (fun r ou' h=>h.elim) fun ps ou' h ho2=>by
  obtain⟨h1,rfl⟩:=h
  exact hk ps h1

theorem Qdy(hΓ:∀g cs,(g,cs)∈Γ->idsL isO cs)(hpr:PR ou m){n:Int}{ca cb:AC}(hn:n=0∨n=1∨n=2∨n=3∨n=4∨n=5∨n=6)(hai:ca.ids isO)(hbi:cb.ids isO)(hbad:notT 3 ca∨(∃x,ca=iW x)/\notT 3 cb){x:Except Int (Ms×Vl)}(hx:x=.error 5){Q:FV->Outer->Prop}:
  AFnP Tryz.prog Γ 179 [.one (.ptr (.o 0) 0),.one (int n),.one (.sl 1 [[ca],[cb]])] ou Q (PlP m x):=by
 refine AFnP.walk 152 tabOk hΓ Tryz.func179 rfl (by kernel_rfl) rfl rfl fun hou=>?_
 have hfin:OuOk ou/\PlP m x (trapE 5) ou:=⟨hou,5,hx,rfl,hpr⟩
 rcases hn with rfl|rfl|rfl|rfl|rfl|rfl|rfl
 ·refine zA ?_
  rcases hbad with hno|⟨⟨y,rfl⟩,hno⟩
  ·refine ACode.drawPan tabOk 11 3 [7,8,9,10] [(1,.one (.box [ca])),(5,.one (.box [cb]))] follows (by kernel_rfl) rfl rfl (by kernel_rfl) (by kernel_rfl) rfl ?_ rfl rfl rfl (by kernel_rfl) rfl ?_
   ·exact⟨⟨_,rfl,zIA rfl rfl rfl (by decide) rfl⟩,⟨_,rfl,zIA rfl rfl rfl (by decide) rfl⟩,trivial⟩
   ·exact Q16 hΓ hno hai rfl rfl rfl hou fun ps hps=>by subst hps;exact hfin
  ·refine ACode.drawPan tabOk 11 7 [8,9,10] [(1,.one (.box [iW y])),(3,.one (int y)),(5,.one (.box [cb]))] follows (by kernel_rfl) rfl rfl (by kernel_rfl) (by kernel_rfl) rfl ?_ rfl rfl rfl (by kernel_rfl) rfl ?_
   ·exact⟨⟨_,rfl,zIA rfl rfl rfl (by decide) rfl⟩,⟨_,rfl,AStep.callPure hΓ rfl rfl rfl (by simp[idsF,iW]) hou (Q0g y)⟩,⟨_,rfl,zIA rfl rfl rfl (by decide) rfl⟩,trivial⟩
   ·exact Q16 hΓ hno hbi rfl rfl rfl hou fun ps hps=>by subst hps;exact hfin
 ·refine zA ?_
  rcases hbad with hno|⟨⟨y,rfl⟩,hno⟩
  ·refine ACode.drawPan tabOk 11 3 [7,8,9,10] [(1,.one (.box [ca])),(5,.one (.box [cb]))] follows (by kernel_rfl) rfl rfl (by kernel_rfl) (by kernel_rfl) rfl ?_ rfl rfl rfl (by kernel_rfl) rfl ?_
   ·exact⟨⟨_,rfl,zIA rfl rfl rfl (by decide) rfl⟩,⟨_,rfl,zIA rfl rfl rfl (by decide) rfl⟩,trivial⟩
   ·exact Q16 hΓ hno hai rfl rfl rfl hou fun ps hps=>by subst hps;exact hfin
  ·refine ACode.drawPan tabOk 11 7 [8,9,10] [(1,.one (.box [iW y])),(3,.one (int y)),(5,.one (.box [cb]))] follows (by kernel_rfl) rfl rfl (by kernel_rfl) (by kernel_rfl) rfl ?_ rfl rfl rfl (by kernel_rfl) rfl ?_
   ·exact⟨⟨_,rfl,zIA rfl rfl rfl (by decide) rfl⟩,⟨_,rfl,AStep.callPure hΓ rfl rfl rfl (by simp[idsF,iW]) hou (Q0g y)⟩,⟨_,rfl,zIA rfl rfl rfl (by decide) rfl⟩,trivial⟩
   ·exact Q16 hΓ hno hbi rfl rfl rfl hou fun ps hps=>by subst hps;exact hfin
 ·refine zA ?_
  rcases hbad with hno|⟨⟨y,rfl⟩,hno⟩
  ·refine ACode.drawPan tabOk 11 3 [7,8,9,10] [(1,.one (.box [ca])),(5,.one (.box [cb]))] follows (by kernel_rfl) rfl rfl (by kernel_rfl) (by kernel_rfl) rfl ?_ rfl rfl rfl (by kernel_rfl) rfl ?_
   ·exact⟨⟨_,rfl,zIA rfl rfl rfl (by decide) rfl⟩,⟨_,rfl,zIA rfl rfl rfl (by decide) rfl⟩,trivial⟩
   ·exact Q16 hΓ hno hai rfl rfl rfl hou fun ps hps=>by subst hps;exact hfin
  ·refine ACode.drawPan tabOk 11 7 [8,9,10] [(1,.one (.box [iW y])),(3,.one (int y)),(5,.one (.box [cb]))] follows (by kernel_rfl) rfl rfl (by kernel_rfl) (by kernel_rfl) rfl ?_ rfl rfl rfl (by kernel_rfl) rfl ?_
   ·exact⟨⟨_,rfl,zIA rfl rfl rfl (by decide) rfl⟩,⟨_,rfl,AStep.callPure hΓ rfl rfl rfl (by simp[idsF,iW]) hou (Q0g y)⟩,⟨_,rfl,zIA rfl rfl rfl (by decide) rfl⟩,trivial⟩
   ·exact Q16 hΓ hno hbi rfl rfl rfl hou fun ps hps=>by subst hps;exact hfin
 ·refine zA ?_
  rcases hbad with hno|⟨⟨y,rfl⟩,hno⟩
  ·refine ACode.drawPan tabOk 13 3 [7,8,9,10,11,12] [(1,.one (.box [ca])),(5,.one (.box [cb]))] follows (by kernel_rfl) rfl rfl (by kernel_rfl) (by kernel_rfl) rfl ?_ rfl rfl rfl (by kernel_rfl) rfl ?_
   ·exact⟨⟨_,rfl,zIA rfl rfl rfl (by decide) rfl⟩,⟨_,rfl,zIA rfl rfl rfl (by decide) rfl⟩,trivial⟩
   ·exact Q16 hΓ hno hai rfl rfl rfl hou fun ps hps=>by subst hps;exact hfin
  ·refine ACode.drawPan tabOk 13 7 [8,9,10,11,12] [(1,.one (.box [iW y])),(3,.one (int y)),(5,.one (.box [cb]))] follows (by kernel_rfl) rfl rfl (by kernel_rfl) (by kernel_rfl) rfl ?_ rfl rfl rfl (by kernel_rfl) rfl ?_
   ·exact⟨⟨_,rfl,zIA rfl rfl rfl (by decide) rfl⟩,⟨_,rfl,AStep.callPure hΓ rfl rfl rfl (by simp[idsF,iW]) hou (Q0g y)⟩,⟨_,rfl,zIA rfl rfl rfl (by decide) rfl⟩,trivial⟩
   ·exact Q16 hΓ hno hbi rfl rfl rfl hou fun ps hps=>by subst hps;exact hfin
 ·refine zA ?_
  rcases hbad with hno|⟨⟨y,rfl⟩,hno⟩
  ·refine ACode.drawPan tabOk 13 3 [7,8,9,10,11,12] [(1,.one (.box [ca])),(5,.one (.box [cb]))] follows (by kernel_rfl) rfl rfl (by kernel_rfl) (by kernel_rfl) rfl ?_ rfl rfl rfl (by kernel_rfl) rfl ?_
   ·exact⟨⟨_,rfl,zIA rfl rfl rfl (by decide) rfl⟩,⟨_,rfl,zIA rfl rfl rfl (by decide) rfl⟩,trivial⟩
   ·exact Q16 hΓ hno hai rfl rfl rfl hou fun ps hps=>by subst hps;exact hfin
  ·refine ACode.drawPan tabOk 13 7 [8,9,10,11,12] [(1,.one (.box [iW y])),(3,.one (int y)),(5,.one (.box [cb]))] follows (by kernel_rfl) rfl rfl (by kernel_rfl) (by kernel_rfl) rfl ?_ rfl rfl rfl (by kernel_rfl) rfl ?_
   ·exact⟨⟨_,rfl,zIA rfl rfl rfl (by decide) rfl⟩,⟨_,rfl,AStep.callPure hΓ rfl rfl rfl (by simp[idsF,iW]) hou (Q0g y)⟩,⟨_,rfl,zIA rfl rfl rfl (by decide) rfl⟩,trivial⟩
   ·exact Q16 hΓ hno hbi rfl rfl rfl hou fun ps hps=>by subst hps;exact hfin
 ·refine zA ?_
  rcases hbad with hno|⟨⟨y,rfl⟩,hno⟩
  ·refine ACode.drawPan tabOk 10 3 [7,8,9] [(1,.one (.box [ca])),(5,.one (.box [cb]))] follows (by kernel_rfl) rfl rfl (by kernel_rfl) (by kernel_rfl) rfl ?_ rfl rfl rfl (by kernel_rfl) rfl ?_
   ·exact⟨⟨_,rfl,zIA rfl rfl rfl (by decide) rfl⟩,⟨_,rfl,zIA rfl rfl rfl (by decide) rfl⟩,trivial⟩
   ·exact Q16 hΓ hno hai rfl rfl rfl hou fun ps hps=>by subst hps;exact hfin
  ·refine ACode.drawPan tabOk 10 7 [8,9] [(1,.one (.box [iW y])),(3,.one (int y)),(5,.one (.box [cb]))] follows (by kernel_rfl) rfl rfl (by kernel_rfl) (by kernel_rfl) rfl ?_ rfl rfl rfl (by kernel_rfl) rfl ?_
   ·exact⟨⟨_,rfl,zIA rfl rfl rfl (by decide) rfl⟩,⟨_,rfl,AStep.callPure hΓ rfl rfl rfl (by simp[idsF,iW]) hou (Q0g y)⟩,⟨_,rfl,zIA rfl rfl rfl (by decide) rfl⟩,trivial⟩
   ·exact Q16 hΓ hno hbi rfl rfl rfl hou fun ps hps=>by subst hps;exact hfin
 ·refine zA ?_
  rcases hbad with hno|⟨⟨y,rfl⟩,hno⟩
  ·refine ACode.drawPan tabOk 10 3 [7,8,9] [(1,.one (.box [ca])),(5,.one (.box [cb]))] follows (by kernel_rfl) rfl rfl (by kernel_rfl) (by kernel_rfl) rfl ?_ rfl rfl rfl (by kernel_rfl) rfl ?_
   ·exact⟨⟨_,rfl,zIA rfl rfl rfl (by decide) rfl⟩,⟨_,rfl,zIA rfl rfl rfl (by decide) rfl⟩,trivial⟩
   ·exact Q16 hΓ hno hai rfl rfl rfl hou fun ps hps=>by subst hps;exact hfin
  ·refine ACode.drawPan tabOk 10 7 [8,9] [(1,.one (.box [iW y])),(3,.one (int y)),(5,.one (.box [cb]))] follows (by kernel_rfl) rfl rfl (by kernel_rfl) (by kernel_rfl) rfl ?_ rfl rfl rfl (by kernel_rfl) rfl ?_
   ·exact⟨⟨_,rfl,zIA rfl rfl rfl (by decide) rfl⟩,⟨_,rfl,AStep.callPure hΓ rfl rfl rfl (by simp[idsF,iW]) hou (Q0g y)⟩,⟨_,rfl,zIA rfl rfl rfl (by decide) rfl⟩,trivial⟩
   ·exact Q16 hΓ hno hbi rfl rfl rfl hou fun ps hps=>by subst hps;exact hfin
theorem Qga{x y:Int}(hx:inW x):-1073741824<=x.tdiv y/\x.tdiv y<=1073741824:=by
 have h1:(x.tdiv y).natAbs<=x.natAbs:=Int.natAbs_tdiv_le_natAbs x y
 obtain⟨h2,h3⟩:=hx
 omega
theorem Qh1(hΓ:∀g cs,(g,cs)∈Γ->idsL isO cs)(hpr:PR ou m)(x:Int){z:Except Int (Ms×Vl)}(hz:z=.error 1){Q:FV->Outer->Prop}:
  AFnP Tryz.prog Γ 179 [.one (.ptr (.o 0) 0),.one (int 3),.one (.sl 1 [[iW x],[iW 0]])] ou Q (PlP m z):=by
 refine AFnP.walk 152 tabOk hΓ Tryz.func179 rfl (by kernel_rfl) rfl rfl fun hou=>?_
 have hfin:OuOk ou/\PlP m z (trapE 1) ou:=⟨hou,1,hz,rfl,hpr⟩
 refine zA ?_
 refine ACode.drawPan tabOk 13 8 [9,10,11,12] [(1,.one (.box [iW x])),(3,.one (int x)),(5,.one (.box [iW 0])),(7,.one (int 0))] follows (by kernel_rfl) rfl rfl (by kernel_rfl) (by kernel_rfl) rfl ?_ rfl rfl rfl (by kernel_rfl) rfl ?_
 ·exact⟨⟨_,rfl,zIA rfl rfl rfl (by decide) rfl⟩,⟨_,rfl,AStep.callPure hΓ rfl rfl rfl (by simp[idsF,iW]) hou (Q0g x)⟩,⟨_,rfl,zIA rfl rfl rfl (by decide) rfl⟩,⟨_,rfl,AStep.callPure hΓ rfl rfl rfl (by simp[idsF,iW]) hou (Q0g 0)⟩,trivial⟩
 ·refine Q0x.callP hΓ (Q98 hΓ x _) rfl rfl rfl rfl (by simp[idsF]) hou (fun r ou' h=>h.elim) fun ps ou' h ho2=>?_
  obtain⟨rfl,rfl⟩:=h
  exact hfin
theorem Qjv(hΓ:∀g cs,(g,cs)∈Γ->idsL isO cs){x y:Int}(hx:inW x)(hy:inW y)(hy0:y≠0):
  AFn Tryz.prog Γ 179 [.one (.ptr (.o 0) 0),.one (int 3),.one (.sl 1 [[iW x],[iW y]])] ou (fun r ou'=>r=.one (iW (wrapW (x.tdiv y)))/\ou'=ou):=by
 have hq:=Qga (y:=y) hx
 refine AFn.walk 152 tabOk Tryz.func179 rfl (by kernel_rfl) rfl rfl fun hou=>?_
 refine zA ?_
 refine ACode.drawX tabOk 13 [(1,.one (.box [iW x])),(3,.one (int x)),(5,.one (.box [iW y])),(7,.one (int y)),(8,.tup [.one (int (x.tdiv y)),.one (int (x.tmod y))])] follows (by kernel_rfl) rfl rfl rfl rfl ?_ ?_
 ·exact⟨⟨_,rfl,zIA rfl rfl rfl (by decide) rfl⟩,⟨_,rfl,AStep.callPure hΓ rfl rfl rfl (by simp[idsF,iW]) hou (Q0g x)⟩,⟨_,rfl,zIA rfl rfl rfl (by decide) rfl⟩,⟨_,rfl,AStep.callPure hΓ rfl rfl rfl (by simp[idsF,iW]) hou (Q0g y)⟩,⟨_,rfl,AStep.callPure hΓ rfl rfl rfl (by simp[idsF]) hou (Q97 hΓ x y hx hy hy0)⟩,trivial⟩
 refine zA ?_
 refine AOps.callC hΓ (Q74 _ (by omega) (by omega)) rfl rfl rfl rfl rfl rfl rfl hou (by simp[idsF]) ?_
 refine zA ?_
 refine zS (AStep.mkIfc conc3 rfl rfl) ?_
 refine zA ?_
 exact AFn.fin' rfl (WkF.ofEq rfl) (by simp[iW]) hou ⟨rfl,rfl⟩
theorem Qh0(hΓ:∀g cs,(g,cs)∈Γ->idsL isO cs)(hpr:PR ou m)(x:Int){z:Except Int (Ms×Vl)}(hz:z=.error 1){Q:FV->Outer->Prop}:
  AFnP Tryz.prog Γ 179 [.one (.ptr (.o 0) 0),.one (int 4),.one (.sl 1 [[iW x],[iW 0]])] ou Q (PlP m z):=by
 refine AFnP.walk 152 tabOk hΓ Tryz.func179 rfl (by kernel_rfl) rfl rfl fun hou=>?_
 have hfin:OuOk ou/\PlP m z (trapE 1) ou:=⟨hou,1,hz,rfl,hpr⟩
 refine zA ?_
 refine ACode.drawPan tabOk 13 8 [9,10,11,12] [(1,.one (.box [iW x])),(3,.one (int x)),(5,.one (.box [iW 0])),(7,.one (int 0))] follows (by kernel_rfl) rfl rfl (by kernel_rfl) (by kernel_rfl) rfl ?_ rfl rfl rfl (by kernel_rfl) rfl ?_
 ·exact⟨⟨_,rfl,zIA rfl rfl rfl (by decide) rfl⟩,⟨_,rfl,AStep.callPure hΓ rfl rfl rfl (by simp[idsF,iW]) hou (Q0g x)⟩,⟨_,rfl,zIA rfl rfl rfl (by decide) rfl⟩,⟨_,rfl,AStep.callPure hΓ rfl rfl rfl (by simp[idsF,iW]) hou (Q0g 0)⟩,trivial⟩
 ·refine Q0x.callP hΓ (Q98 hΓ x _) rfl rfl rfl rfl (by simp[idsF]) hou (fun r ou' h=>h.elim) fun ps ou' h ho2=>?_
  obtain⟨rfl,rfl⟩:=h
  exact hfin
theorem Qju(hΓ:∀g cs,(g,cs)∈Γ->idsL isO cs){x y:Int}(hx:inW x)(hy:inW y)(hy0:y≠0):
  AFn Tryz.prog Γ 179 [.one (.ptr (.o 0) 0),.one (int 4),.one (.sl 1 [[iW x],[iW y]])] ou (fun r ou'=>r=.one (iW (x.tmod y))/\ou'=ou):=by
 have hq:=Qga (y:=y) hx
 refine AFn.walk 152 tabOk Tryz.func179 rfl (by kernel_rfl) rfl rfl fun hou=>?_
 refine zA ?_
 refine ACode.drawX tabOk 13 [(1,.one (.box [iW x])),(3,.one (int x)),(5,.one (.box [iW y])),(7,.one (int y)),(8,.tup [.one (int (x.tdiv y)),.one (int (x.tmod y))])] follows (by kernel_rfl) rfl rfl rfl rfl ?_ ?_
 ·exact⟨⟨_,rfl,zIA rfl rfl rfl (by decide) rfl⟩,⟨_,rfl,AStep.callPure hΓ rfl rfl rfl (by simp[idsF,iW]) hou (Q0g x)⟩,⟨_,rfl,zIA rfl rfl rfl (by decide) rfl⟩,⟨_,rfl,AStep.callPure hΓ rfl rfl rfl (by simp[idsF,iW]) hou (Q0g y)⟩,⟨_,rfl,AStep.callPure hΓ rfl rfl rfl (by simp[idsF]) hou (Q97 hΓ x y hx hy hy0)⟩,trivial⟩
 refine zA ?_
 refine zS (AStep.mkIfc conc3 rfl rfl) ?_
 refine zA ?_
 exact AFn.fin' rfl (WkF.ofEq rfl) (by simp[iW]) hou ⟨rfl,rfl⟩
def wdV (v:Vl):Prop:=∀n,v=.word n->inW n
theorem Qjz(hΓ:∀g cs,(g,cs)∈Γ->idsL isO cs)(h0:M0 fu fc ou H nm m tc ec vc kc){n:Int}{a b:Vl}{ca cb:AC}(hn:n=0∨n=1∨n=2∨n=3∨n=4∨n=5∨n=6)(ha:VR H nm a ca)(hb:VR H nm b cb)(hwa:wdV a)(hwb:wdV b):
  AFnP Tryz.prog Γ 179 [.one (.ptr (.o 0) 0),.one (int n),.one (.sl 1 [[ca],[cb]])] ou (PlE fu fc H nm (primM fu m n [a,b]) tc ec vc kc) (PlP m (primM fu m n [a,b])):=by
 have hpr:=h0.pr
 have hai:=ha.ids
 have hbi:=hb.ids
 rcases ha.isWord with ⟨x,rfl,rfl⟩|⟨hav,han⟩
 ·rcases hb.isWord with ⟨y,rfl,rfl⟩|⟨hbv,hbn⟩
  ·have hx:=hwa x rfl
   have hy:=hwb y rfl
   have plain:∀{v:Vl}{c:AC},primM fu m n [.word x,.word y]=.ok (m,v)->VR H nm v c->AFn Tryz.prog Γ 179 [.one (.ptr (.o 0) 0),.one (int n),.one (.sl 1 [[iW x],[iW y]])] ou (fun r ou'=>r=.one c/\ou'=ou)->
     AFnP Tryz.prog Γ 179 [.one (.ptr (.o 0) 0),.one (int n),.one (.sl 1 [[iW x],[iW y]])] ou (PlE fu fc H nm (primM fu m n [.word x,.word y]) tc ec vc kc) (PlP m (primM fu m n [.word x,.word y])):=fun {v c} e hv h=>
    AFn.toP (h.mono fun r ou' hq=>by obtain⟨rfl,rfl⟩:=hq;exact⟨m,v,e,fc.kt,H,nm,c,rfl,.refl _ _,hv,h0⟩)
   have two:(n=0∨n=1∨n=2∨n=5∨n=6)->AFnP Tryz.prog Γ 179 [.one (.ptr (.o 0) 0),.one (int n),.one (.sl 1 [[iW x],[iW y]])] ou (PlE fu fc H nm (primM fu m n [.word x,.word y]) tc ec vc kc) (PlP m (primM fu m n [.word x,.word y])):=fun h=>by
    have hex:∃v,primM fu m n [.word x,.word y]=.ok (m,v):=by rcases h with rfl|rfl|rfl|rfl|rfl <;> exact⟨_,rfl⟩
    obtain⟨v,hv⟩:=hex
    obtain⟨_,c,hc,hf⟩:=Qdx (H:=H) (nm:=nm) hΓ h hx hy hv ou
    exact plain hv hc hf
   rcases hn with h|h|h|h|h|h|h
   ·exact two (.inl h)
   ·exact two (.inr (.inl h))
   ·exact two (.inr (.inr (.inl h)))
   ·subst h
    by_cases hy0:y=0
    ·subst hy0;exact Qh1 hΓ hpr x rfl
    ·exact plain (show primM fu m 3 [.word x,.word y]=.ok (m,.word (wrapW (x.tdiv y))) by simp[primM,wordV,hy0,bind,Except.bind,pure,Except.pure]) (.word _) (Qjv hΓ hx hy hy0)
   ·subst h
    by_cases hy0:y=0
    ·subst hy0;exact Qh0 hΓ hpr x rfl
    ·exact plain (show primM fu m 4 [.word x,.word y]=.ok (m,.word (x.tmod y)) by simp[primM,wordV,hy0,bind,Except.bind,pure,Except.pure]) (.word _) (Qju hΓ hx hy hy0)
   ·exact two (.inr (.inr (.inr (.inl h))))
   ·exact two (.inr (.inr (.inr (.inr h))))
  ·have e:=Q4r hbv
   exact Qdy hΓ hpr hn hai hbi (.inr ⟨⟨x,rfl⟩,hbn⟩) (by rcases hn with rfl|rfl|rfl|rfl|rfl|rfl|rfl <;> simp[primM,wordV,e,bind,Except.bind])
 ·have e:=Q4r hav
  exact Qdy hΓ hpr hn hai hbi (.inl han) (by rcases hn with rfl|rfl|rfl|rfl|rfl|rfl|rfl <;> simp[primM,e,bind,Except.bind])
end
def putAt {α:Type}(l:List α)(i:Nat)(v:α):List α:=l.take i++[v]++l.drop i
def InsQN (own:Nat->Prop)(es':List (List AC))(ou:Outer)(r:FV)(ou':Outer):Prop:=
 ∃k' cap',es'.length<=cap'/\r=.one (.arr (.o k') 1 0 es'.length cap')/\ou' k'=some (.cells (vec 1 es' cap'))/\(own k'∨ou k'=none)/\∀m,¬own m->m≠k'->ou' m=ou m
theorem Qan(hΓ:∀g cs,(g,cs)∈Γ->idsL isO cs)(e0:List AC)(he1:e0.length=1)(hei:idsL isO e0)(ou:Outer):AFn Tryz.prog Γ 195 [.one (.lit (.slice none 0 0)),.one (int 0),.one (.sl 1 [e0])] ou (InsQN (fun _=>False) [e0] ou):=by
 refine AFn.walk 95 tabOk Tryz.func195 rfl (by kernel_rfl) rfl rfl fun hou=>?_
 refine zA ?_
 refine zS (AStep.sliceNil tabOk rfl rfl rfl rfl rfl rfl) ?_
 refine zA ?_
 refine AOps.appOwn (σ1:=⟨0,[],ou⟩) tabOk rfl rfl rfl rfl rfl rfl rfl rfl rfl (.nil 1) (.sl 1 [e0]) (by simp) rfl (by simp;show 1 * 8<=_;omega) (by simp) fun cap hc=>?_
 refine AOps.cede 0 (show 0 < 1 by omega) fun k hk=>⟨[(25,.one (.arr (.o k) 1 0 1 cap))],⟨1,[],updO ou k (.cells (vec 1 [e0] cap))⟩,⟨CedFr.get (.cons rfl rfl .nil),rfl,fun i x hx=>?_⟩,?_⟩
 ·have hk:ou k=none:=hk
  cases i with
  |l m=>cases hx
  |o m=>
   have hx':updO ou k (.cells (vec 1 [e0] cap)) m=some x:=hx
   by_cases e:k=m
   ·subst e;rw[Q03]at hx';cases hx'
    exact⟨.l 0,_,rfl,rfl,(AObj.sub_o _ (Q09 _ (show idsS isO [e0]from ⟨hei,trivial⟩))).symm⟩
   ·rw[Q06 _ e]at hx'
    exact⟨.o m,x,hx',rfl,(AObj.sub_o x (hou m x hx')).symm⟩
 refine zA ?_
 exact AFn.fin' rfl (.refl _) (by simp) (Q0o hou (Q09 _ (show idsS isO [e0]from ⟨hei,trivial⟩))) ⟨k,cap,by simpa using hc,rfl,Q03 _ _ _,.inr hk,fun m _ h=>by show updO ou k _ m=ou m;exact Q06 _ (fun e=>h e.symm) _⟩
theorem Qgo(us:Array Value)(v:Value)(w:World)(h:(Extern.SlicesOverlaps.overlaps #[28,28] #[4] us).run Tryz.prog w=.ok v w):(callFunc 199 us).run Tryz.prog w=.ok (.value v) w:=by
 rw[run_callFunc_extern Tryz.func199 (by kernel_rfl) (by kernel_rfl) (by kernel_rfl) (e:=Extern.SlicesOverlaps.overlaps #[28,28] #[4]) (by kernel_rfl),h]
 rfl
set_option maxHeartbeats 1000000 in
theorem Qg1(hΓ:∀g cs,(g,cs)∈Γ->idsL isO cs)(e0:List AC)(he1:e0.length=1)(hei:idsL isO e0)(es:List (List AC))(hes:∀x∈es,x.length=1)(hids:idsS isO es)(hl:es.length<=1048576)(i:Nat)(hi:i<=es.length)(ou:Outer)(k cap:Nat)(hc:es.length<=cap)(hk:ou k=some (.cells (vec 1 es cap))):
  AFn Tryz.prog Γ 195 [.one (.arr (.o k) 1 0 es.length cap),.one (int i),.one (.sl 1 [e0])] ou (InsQN (fun m=>m=k) (putAt es i (e0)) ou):=by
 have hpl:(putAt es i (e0)).length=es.length+1:=by unfold putAt;simp;omega
 have hpe:∀x∈putAt es i (e0),x.length=1:=fun x hx=>by
  unfold putAt at hx
  simp only[List.mem_append,List.mem_singleton]at hx
  rcases hx with (hx|rfl)|hx
  ·exact hes x (List.mem_of_mem_take hx)
  ·exact he1
  ·exact hes x (List.mem_of_mem_drop hx)
 have hpi:idsS isO (putAt es i (e0)):=Q1k.2 fun x hx=>by
  unfold putAt at hx
  simp only[List.mem_append,List.mem_singleton]at hx
  rcases hx with (hx|rfl)|hx
  ·exact Q1k.1 hids x (List.mem_of_mem_take hx)
  ·exact hei
  ·exact Q1k.1 hids x (List.mem_of_mem_drop hx)
 refine AFn.walk 95 tabOk Tryz.func195 rfl (by kernel_rfl) rfl rfl fun hou=>?_
 refine zA ?_
 refine zS (AStep.sliceOwn (a:=i) (b:=es.length) (c:=cap) tabOk rfl rfl rfl rfl rfl rfl ⟨_,rfl⟩ rfl rfl (fun h=>h) (by omega) (by omega) (by omega)) ?_
 refine zA ?_
 refine ACode.wk 7 rfl (y:=.one (int 1)) (.ofEq rfl) ?_
 refine ACode.cond rfl (fun hb=>?_) (fun hb=>?_)
 ·have hin:i=es.length:=by simp at hb;omega
  have hput:putAt es i (e0)=es++[e0]:=by unfold putAt;rw[hin];simp
  rw[hput]at hpl hpe hpi ⊢
  refine zA ?_
  refine AOps.appOwn (σ1:=St.set ⟨0,[],ou⟩ (.o k) .dead) tabOk rfl rfl rfl rfl rfl rfl rfl rfl rfl (.own 1 cap es (.o k) hk hes hc) (.sl 1 [e0]) (by simp) rfl (by simp;show _ * 8<=_;omega) (by simp;omega) fun cap' hc'=>?_
  rw[Q1n]
  refine AOps.cede 0 (show 0 < 1 by omega) fun k' hk'=>⟨[(25,.one (.arr (.o k') 1 0 (es++[e0]).length cap'))],⟨1,[],updO (updO ou k .dead) k' (.cells (vec 1 (es++[e0]) cap'))⟩,⟨CedFr.get (.cons rfl rfl .nil),rfl,fun q x hx=>?_⟩,?_⟩
  ·cases q with
   |l m=>cases hx
   |o m=>
    have hx':updO (updO ou k .dead) k' (.cells (vec 1 (es++[e0]) cap')) m=some x:=hx
    by_cases e:k'=m
    ·subst e;rw[Q03]at hx';cases hx'
     exact⟨.l 0,_,rfl,rfl,(AObj.sub_o _ (Q09 _ hpi)).symm⟩
    ·rw[Q06 _ e]at hx'
     exact⟨.o m,x,hx',rfl,(AObj.sub_o x (Q0o hou (o:=.dead) trivial m x hx')).symm⟩
  have hkk:k≠k':=fun e=>by
   subst e
   have h1:updO ou k .dead k=none:=hk'
   rw[Q03]at h1;cases h1
  have hk2:ou k'=none:=by
   have h1:updO ou k .dead k'=none:=hk'
   rwa [Q06 _ hkk]at h1
  refine zA ?_
  refine AFn.fin' rfl (.refl _) (by simp) (Q0o (Q0o hou trivial) (Q09 _ hpi)) ⟨k',cap',by simpa using hc',rfl,Q03 _ _ _,.inr hk2,fun m h1 h=>?_⟩
  show updO (updO ou k .dead) k' _ m=ou m
  rw[Q06 _ (fun e=>h e.symm),Q06 _ (fun e=>h1 e.symm)]
 ·have hin:i < es.length:=by simp at hb;omega
  refine zA ?_
  refine zS (AStep.arith rfl rfl rfl (.inl ⟨rfl,rfl⟩) zI) ?_
  refine zA ?_
  refine zS (AStep.capArr tabOk rfl rfl rfl rfl) ?_
  refine zA ?_
  refine ACode.cond rfl (fun hb2=>?_) (fun hb2=>?_)
  ·have hgr:cap < es.length+1:=by simp at hb2;omega
   clear hb hb2
   refine zA ?_
   refine zS (AStep.sliceOwn' (a:=0) (b:=i) (c:=cap) (off':=0) (m':=i) (c':=cap) tabOk rfl rfl rfl rfl rfl rfl rfl ⟨_,rfl⟩ rfl (fun h=>by cases h) (by omega) (by omega) (by omega) (by simp) (by omega) (by omega)) ?_
   refine zA ?_
   refine zS (AStep.arith rfl rfl rfl (.inl ⟨rfl,rfl⟩) zI) ?_
   refine zA ?_
   refine zS (AStep.arith rfl rfl rfl (.inr (.inl ⟨rfl,rfl⟩)) zI) ?_
   refine AOps.wk 39 rfl (y:=.one (int ((es.length+1 - i:Nat):Int))) (.ofEq (by rw[show ((es.length+1 - i:Nat):Int)=(es.length:Int)+1 - i by omega])) ?_
   refine AOps.stepR rfl rfl rfl (Q0y.appZeros (m:=es.length+1 - i) (a:=i) (es:=es) tabOk rfl rfl rfl rfl rfl Tryz.underlying3 rfl rfl hk hes hc hi (by omega) (by omega) (by show _ * 8<=_;omega) (by omega)) ?_
   rintro _ _ ⟨capn,hcn,rfl,rfl⟩
   have hcn':es.length+1<=capn:=by omega
   refine AOps.wk 40 rfl (y:=.one (.arr (.l 0) 1 0 (es.length+1) capn)) (.ofEq (by rw[show i+(es.length+1 - i)=es.length+1 by omega])) ?_
   refine zA ?_
   have htl:(es.take i).length=i:=by simp;omega
   have hte:∀x∈es.take i,x.length=1:=fun x hx=>hes x (List.mem_of_mem_take hx)
   have h1e:∀x∈es.take i++[e0],x.length=1:=fun x hx=>by
    rcases List.mem_append.1 hx with h|h
    ·exact hte x h
    ·rw[List.mem_singleton.1 h];exact he1
   refine zS (AStep.sliceOwn' (a:=i) (b:=es.length+1) (c:=capn) (off':=i) (m':=es.length+1 - i) (c':=capn - i) tabOk rfl rfl rfl rfl rfl rfl ⟨_,rfl⟩ rfl rfl (fun h=>by cases h) (by omega) (by omega) (by omega) (by rw[if_neg (by omega)]) rfl rfl) ?_
   refine zA ?_
   refine zS (AStep.copySl (es:=es.take i) (news:=[e0]) (es':=es.take i++[e0]) tabOk rfl rfl rfl rfl rfl rfl rfl (.sl 1 _) (by simp) rfl hte (by omega) (by omega) (by simp;omega) (by simp;omega) (by rw[List.take_of_length_le (by omega),List.drop_of_length_le (by simp;omega)];simp)) ?_
   refine zA ?_
   refine ACode.drawX tabOk 8 [(3,.one (int ((i+1:Nat):Int))),(4,.one (.arr (.l 0) 1 (i+1) (es.length - i) (capn - (i+1)))),(7,.one (.arr (.o k) 1 i (es.length - i) (cap - i)))] follows (by kernel_rfl) rfl rfl rfl rfl ?_ ?_
   ·refine .step rfl (zHP (AStep.arith rfl rfl rfl (.inl ⟨rfl,by omega⟩) zI)) ?_
    refine .step rfl (zHP (AStep.sliceOwn' (a:=i+1) (b:=es.length+1) (c:=capn) tabOk rfl rfl rfl rfl rfl rfl ⟨_,rfl⟩ rfl rfl (fun h=>by cases h) (by omega) (by omega) (by omega) (by rw[if_neg (by omega)]) (by omega) rfl)) ?_
    exact .step rfl (zHP (AStep.sliceOwn' (a:=i) (b:=es.length) (c:=cap) tabOk rfl rfl rfl rfl rfl rfl ⟨_,rfl⟩ rfl rfl (fun h=>by cases h) (by omega) (by omega) (by omega) (by rw[if_neg (by omega)]) rfl rfl)) .nil
   refine zA ?_
   refine zS (AStep.copyOwn (es:=es.take i++[e0]) (es2:=es) (es':=putAt es i (e0)) (k:=es.length - i) tabOk rfl rfl rfl rfl rfl rfl rfl rfl h1e (by simp;omega) (by simp;omega) hk hes hc (by omega) (by omega) (by omega) (by rw[List.take_of_length_le (by simp;omega),List.drop_of_length_le (l:=es.take i++[e0]) (by simp;omega),List.take_of_length_le (l:=es.drop i) (by simp)];simp[putAt])) ?_
   have hcp:(putAt es i (e0)).length<=capn:=by omega
   refine AOps.cede 0 (show 0 < 1 by omega) fun k' hk'=>⟨[(9,.one (.arr (.o k') 1 0 (es.length+1) capn))],⟨1,[],updO ou k' (.cells (vec 1 (putAt es i (e0)) capn))⟩,⟨CedFr.get (.cons rfl rfl .nil),rfl,fun q x hx=>?_⟩,?_⟩
   ·cases q with
    |l m=>cases hx
    |o m=>
     have hx':updO ou k' (.cells (vec 1 (putAt es i (e0)) capn)) m=some x:=hx
     by_cases e:k'=m
     ·subst e;rw[Q03]at hx';cases hx'
      exact⟨.l 0,_,rfl,rfl,(AObj.sub_o _ (Q09 _ hpi)).symm⟩
     ·rw[Q06 _ e]at hx'
      exact⟨.o m,x,hx',rfl,(AObj.sub_o x (hou m x hx')).symm⟩
   have hk2:ou k'=none:=hk'
   refine zA ?_
   refine AFn.fin' rfl (.refl _) (by simp) (Q0o hou (Q09 _ hpi)) ⟨k',capn,hcp,by rw[hpl],Q03 _ _ _,.inr hk2,fun m h1 h=>?_⟩
   show updO ou k' _ m=ou m
   rw[Q06 _ (fun e=>h e.symm)]
  ·have hgr:es.length+1<=cap:=by simp at hb2;omega
   clear hb hb2
   refine zA ?_
   refine zS (AStep.arith rfl rfl rfl (.inl ⟨rfl,rfl⟩) zI) ?_
   refine zA ?_
   refine zS (AStep.sliceOwn' (a:=0) (b:=es.length+1) (c:=cap) (off':=0) (m':=es.length+1) (c':=cap) tabOk rfl rfl rfl rfl rfl rfl rfl ⟨_,rfl⟩ rfl (fun h=>by cases h) (by omega) (by omega) (by omega) (by simp) (by omega) (by omega)) ?_
   refine zA ?_
   refine zS (AStep.arith rfl rfl rfl (.inl ⟨rfl,rfl⟩) zI) ?_
   refine zA ?_
   refine zS (AStep.sliceOwn' (a:=i+1) (b:=es.length+1) (c:=cap) (off':=i+1) (m':=es.length - i) (c':=cap - (i+1)) tabOk rfl rfl rfl rfl rfl rfl ⟨_,rfl⟩ rfl rfl (fun h=>by cases h) (by omega) (by omega) (by omega) (by rw[if_neg (by omega)]) (by omega) (by omega)) ?_
   refine zA ?_
   refine zS (AStep.overlapsSl (t:=28) (tR:=4) (news:=[e0]) tabOk rfl rfl rfl rfl rfl Qgo rfl rfl (by simp) (by omega) hk (by rw[Q47 hes hc];omega)) ?_
   refine zA ?_
   refine ACode.drawX tabOk 8 [(3,.one (int ((i+1:Nat):Int))),(4,.one (.arr (.o k) 1 (i+1) (es.length - i) (cap - (i+1)))),(7,.one (.arr (.o k) 1 i (es.length+1 - i) (cap - i)))] follows (by kernel_rfl) rfl rfl rfl rfl ?_ ?_
   ·refine .step rfl (zHP (AStep.arith rfl rfl rfl (.inl ⟨rfl,by omega⟩) zI)) ?_
    refine .step rfl (zHP (AStep.sliceOwn' (a:=i+1) (b:=es.length+1) (c:=cap) tabOk rfl rfl rfl rfl rfl rfl ⟨_,rfl⟩ rfl rfl (fun h=>by cases h) (by omega) (by omega) (by omega) (by rw[if_neg (by omega)]) (by omega) rfl)) ?_
    exact .step rfl (zHP (AStep.sliceOwn' (a:=i) (b:=es.length+1) (c:=cap) tabOk rfl rfl rfl rfl rfl rfl ⟨_,rfl⟩ rfl rfl (fun h=>by cases h) (by omega) (by omega) (by omega) (by rw[if_neg (by omega)]) rfl rfl)) .nil
   refine zA ?_
   have h1e:∀x∈es.take (i+1)++es.drop i,x.length=1:=fun x hx=>by
    rcases List.mem_append.1 hx with h|h
    ·exact hes x (List.mem_of_mem_take h)
    ·exact hes x (List.mem_of_mem_drop h)
   refine zS (AStep.copyOwn (es:=es) (es2:=es) (es':=es.take (i+1)++es.drop i) (k:=es.length - i) tabOk rfl rfl rfl rfl rfl rfl rfl hk hes hc (by omega) hk hes hc (by omega) (by omega) (by omega) (by rw[List.drop_of_length_le (i:=i+1+(es.length - i)) (l:=es) (by omega),List.take_of_length_le (l:=es.drop i) (by simp)];simp)) ?_
   rw[Q1n]
   refine zA ?_
   refine zS (AStep.sliceOwn' (a:=i) (b:=es.length+1) (c:=cap) (off':=i) (m':=es.length+1 - i) (c':=cap - i) tabOk rfl rfl rfl rfl rfl rfl ⟨_,rfl⟩ rfl rfl (fun h=>by cases h) (by omega) (by omega) (by omega) (by rw[if_neg (by omega)]) rfl rfl) ?_
   refine zA ?_
   have h2l:(es.take (i+1)++es.drop i).length=es.length+1:=by simp;omega
   have h3e:(es.take (i+1)++es.drop i).take i++[e0]++(es.take (i+1)++es.drop i).drop (i+1)=putAt es i (e0):=by
    have e1:(es.take (i+1)).length=i+1:=by simp;omega
    rw[List.take_append_of_le_length (by omega),List.take_take,List.drop_append_of_le_length (by omega),List.drop_of_length_le (l:=es.take (i+1)) (by omega)]
    simp[putAt]
   refine zS (AStep.copySl (es:=es.take (i+1)++es.drop i) (news:=[e0]) (es':=putAt es i (e0)) tabOk rfl rfl rfl rfl rfl rfl rfl (.sl 1 _) (by simp) (Q03 _ _ _) h1e (by omega) (by omega) (by simp;omega) (by simp;omega) h3e) ?_
   rw[Q1n,Q5y]
   refine zA ?_
   refine AFn.fin' rfl (.refl _) (by simp) (Q0o hou (Q09 _ hpi)) ⟨k,cap,by omega,by rw[hpl],Q03 _ _ _,.inl rfl,fun m h1 h=>?_⟩
   show updO ou k _ m=ou m
   rw[Q06 _ (fun e=>h e.symm)]
def InsQW (own:Nat->Prop)(es':List (List AC))(ou:Outer)(r:FV)(ou':Outer):Prop:=
 ∃k' cap',es'.length<=cap'/\r=.one (.arr (.o k') 1 0 es'.length cap')/\ou' k'=some (.cells (vec 1 es' cap'))/\(own k'∨ou k'=none)/\∀m,¬own m->m≠k'->ou' m=ou m
theorem Qam(hΓ:∀g cs,(g,cs)∈Γ->idsL isO cs)(e0:List AC)(he1:e0.length=1)(hei:idsL isO e0)(ou:Outer):AFn Tryz.prog Γ 196 [.one (.lit (.slice none 0 0)),.one (int 0),.one (.sl 1 [e0])] ou (InsQW (fun _=>False) [e0] ou):=by
 refine AFn.walk 95 tabOk Tryz.func196 rfl (by kernel_rfl) rfl rfl fun hou=>?_
 refine zA ?_
 refine zS (AStep.sliceNil tabOk rfl rfl rfl rfl rfl rfl) ?_
 refine zA ?_
 refine AOps.appOwn (σ1:=⟨0,[],ou⟩) tabOk rfl rfl rfl rfl rfl rfl rfl rfl rfl (.nil 1) (.sl 1 [e0]) (by simp) rfl (by simp;show 1 * 16<=_;omega) (by simp) fun cap hc=>?_
 refine AOps.cede 0 (show 0 < 1 by omega) fun k hk=>⟨[(25,.one (.arr (.o k) 1 0 1 cap))],⟨1,[],updO ou k (.cells (vec 1 [e0] cap))⟩,⟨CedFr.get (.cons rfl rfl .nil),rfl,fun i x hx=>?_⟩,?_⟩
 ·have hk:ou k=none:=hk
  cases i with
  |l m=>cases hx
  |o m=>
   have hx':updO ou k (.cells (vec 1 [e0] cap)) m=some x:=hx
   by_cases e:k=m
   ·subst e;rw[Q03]at hx';cases hx'
    exact⟨.l 0,_,rfl,rfl,(AObj.sub_o _ (Q09 _ (show idsS isO [e0]from ⟨hei,trivial⟩))).symm⟩
   ·rw[Q06 _ e]at hx'
    exact⟨.o m,x,hx',rfl,(AObj.sub_o x (hou m x hx')).symm⟩
 refine zA ?_
 exact AFn.fin' rfl (.refl _) (by simp) (Q0o hou (Q09 _ (show idsS isO [e0]from ⟨hei,trivial⟩))) ⟨k,cap,by simpa using hc,rfl,Q03 _ _ _,.inr hk,fun m _ h=>by show updO ou k _ m=ou m;exact Q06 _ (fun e=>h e.symm) _⟩
theorem Qgn(us:Array Value)(v:Value)(w:World)(h:(Extern.SlicesOverlaps.overlaps #[166,166] #[4] us).run Tryz.prog w=.ok v w):(callFunc 201 us).run Tryz.prog w=.ok (.value v) w:=by
 rw[run_callFunc_extern Tryz.func201 (by kernel_rfl) (by kernel_rfl) (by kernel_rfl) (e:=Extern.SlicesOverlaps.overlaps #[166,166] #[4]) (by kernel_rfl),h]
 rfl
set_option maxHeartbeats 1000000 in
theorem Qg0(hΓ:∀g cs,(g,cs)∈Γ->idsL isO cs)(e0:List AC)(he1:e0.length=1)(hei:idsL isO e0)(es:List (List AC))(hes:∀x∈es,x.length=1)(hids:idsS isO es)(hl:es.length<=1048576)(i:Nat)(hi:i<=es.length)(ou:Outer)(k cap:Nat)(hc:es.length<=cap)(hk:ou k=some (.cells (vec 1 es cap))):
  AFn Tryz.prog Γ 196 [.one (.arr (.o k) 1 0 es.length cap),.one (int i),.one (.sl 1 [e0])] ou (InsQW (fun m=>m=k) (putAt es i (e0)) ou):=by
 have hpl:(putAt es i (e0)).length=es.length+1:=by unfold putAt;simp;omega
 have hpe:∀x∈putAt es i (e0),x.length=1:=fun x hx=>by
  unfold putAt at hx
  simp only[List.mem_append,List.mem_singleton]at hx
  rcases hx with (hx|rfl)|hx
  ·exact hes x (List.mem_of_mem_take hx)
  ·exact he1
  ·exact hes x (List.mem_of_mem_drop hx)
 have hpi:idsS isO (putAt es i (e0)):=Q1k.2 fun x hx=>by
  unfold putAt at hx
  simp only[List.mem_append,List.mem_singleton]at hx
  rcases hx with (hx|rfl)|hx
  ·exact Q1k.1 hids x (List.mem_of_mem_take hx)
  ·exact hei
  ·exact Q1k.1 hids x (List.mem_of_mem_drop hx)
 refine AFn.walk 95 tabOk Tryz.func196 rfl (by kernel_rfl) rfl rfl fun hou=>?_
 refine zA ?_
 refine zS (AStep.sliceOwn (a:=i) (b:=es.length) (c:=cap) tabOk rfl rfl rfl rfl rfl rfl ⟨_,rfl⟩ rfl rfl (fun h=>h) (by omega) (by omega) (by omega)) ?_
 refine zA ?_
 refine ACode.wk 7 rfl (y:=.one (int 1)) (.ofEq rfl) ?_
 refine ACode.cond rfl (fun hb=>?_) (fun hb=>?_)
 ·have hin:i=es.length:=by simp at hb;omega
  have hput:putAt es i (e0)=es++[e0]:=by unfold putAt;rw[hin];simp
  rw[hput]at hpl hpe hpi ⊢
  refine zA ?_
  refine AOps.appOwn (σ1:=St.set ⟨0,[],ou⟩ (.o k) .dead) tabOk rfl rfl rfl rfl rfl rfl rfl rfl rfl (.own 1 cap es (.o k) hk hes hc) (.sl 1 [e0]) (by simp) rfl (by simp;show _ * 16<=_;omega) (by simp;omega) fun cap' hc'=>?_
  rw[Q1n]
  refine AOps.cede 0 (show 0 < 1 by omega) fun k' hk'=>⟨[(25,.one (.arr (.o k') 1 0 (es++[e0]).length cap'))],⟨1,[],updO (updO ou k .dead) k' (.cells (vec 1 (es++[e0]) cap'))⟩,⟨CedFr.get (.cons rfl rfl .nil),rfl,fun q x hx=>?_⟩,?_⟩
  ·cases q with
   |l m=>cases hx
   |o m=>
    have hx':updO (updO ou k .dead) k' (.cells (vec 1 (es++[e0]) cap')) m=some x:=hx
    by_cases e:k'=m
    ·subst e;rw[Q03]at hx';cases hx'
     exact⟨.l 0,_,rfl,rfl,(AObj.sub_o _ (Q09 _ hpi)).symm⟩
    ·rw[Q06 _ e]at hx'
     exact⟨.o m,x,hx',rfl,(AObj.sub_o x (Q0o hou (o:=.dead) trivial m x hx')).symm⟩
  have hkk:k≠k':=fun e=>by
   subst e
   have h1:updO ou k .dead k=none:=hk'
   rw[Q03]at h1;cases h1
  have hk2:ou k'=none:=by
   have h1:updO ou k .dead k'=none:=hk'
   rwa [Q06 _ hkk]at h1
  refine zA ?_
  refine AFn.fin' rfl (.refl _) (by simp) (Q0o (Q0o hou trivial) (Q09 _ hpi)) ⟨k',cap',by simpa using hc',rfl,Q03 _ _ _,.inr hk2,fun m h1 h=>?_⟩
  show updO (updO ou k .dead) k' _ m=ou m
  rw[Q06 _ (fun e=>h e.symm),Q06 _ (fun e=>h1 e.symm)]
 ·have hin:i < es.length:=by simp at hb;omega
  refine zA ?_
  refine zS (AStep.arith rfl rfl rfl (.inl ⟨rfl,rfl⟩) zI) ?_
  refine zA ?_
  refine zS (AStep.capArr tabOk rfl rfl rfl rfl) ?_
  refine zA ?_
  refine ACode.cond rfl (fun hb2=>?_) (fun hb2=>?_)
  ·have hgr:cap < es.length+1:=by simp at hb2;omega
   clear hb hb2
   refine zA ?_
   refine zS (AStep.sliceOwn' (a:=0) (b:=i) (c:=cap) (off':=0) (m':=i) (c':=cap) tabOk rfl rfl rfl rfl rfl rfl rfl ⟨_,rfl⟩ rfl (fun h=>by cases h) (by omega) (by omega) (by omega) (by simp) (by omega) (by omega)) ?_
   refine zA ?_
   refine zS (AStep.arith rfl rfl rfl (.inl ⟨rfl,rfl⟩) zI) ?_
   refine zA ?_
   refine zS (AStep.arith rfl rfl rfl (.inr (.inl ⟨rfl,rfl⟩)) zI) ?_
   refine AOps.wk 39 rfl (y:=.one (int ((es.length+1 - i:Nat):Int))) (.ofEq (by rw[show ((es.length+1 - i:Nat):Int)=(es.length:Int)+1 - i by omega])) ?_
   refine AOps.stepR rfl rfl rfl (Q0y.appZeros (m:=es.length+1 - i) (a:=i) (es:=es) tabOk rfl rfl rfl rfl rfl Tryz.underlying3 rfl rfl hk hes hc hi (by omega) (by omega) (by show _ * 16<=_;omega) (by omega)) ?_
   rintro _ _ ⟨capn,hcn,rfl,rfl⟩
   have hcn':es.length+1<=capn:=by omega
   refine AOps.wk 40 rfl (y:=.one (.arr (.l 0) 1 0 (es.length+1) capn)) (.ofEq (by rw[show i+(es.length+1 - i)=es.length+1 by omega])) ?_
   refine zA ?_
   have htl:(es.take i).length=i:=by simp;omega
   have hte:∀x∈es.take i,x.length=1:=fun x hx=>hes x (List.mem_of_mem_take hx)
   have h1e:∀x∈es.take i++[e0],x.length=1:=fun x hx=>by
    rcases List.mem_append.1 hx with h|h
    ·exact hte x h
    ·rw[List.mem_singleton.1 h];exact he1
   refine zS (AStep.sliceOwn' (a:=i) (b:=es.length+1) (c:=capn) (off':=i) (m':=es.length+1 - i) (c':=capn - i) tabOk rfl rfl rfl rfl rfl rfl ⟨_,rfl⟩ rfl rfl (fun h=>by cases h) (by omega) (by omega) (by omega) (by rw[if_neg (by omega)]) rfl rfl) ?_
   refine zA ?_
   refine zS (AStep.copySl (es:=es.take i) (news:=[e0]) (es':=es.take i++[e0]) tabOk rfl rfl rfl rfl rfl rfl rfl (.sl 1 _) (by simp) rfl hte (by omega) (by omega) (by simp;omega) (by simp;omega) (by rw[List.take_of_length_le (by omega),List.drop_of_length_le (by simp;omega)];simp)) ?_
   refine zA ?_
   refine ACode.drawX tabOk 8 [(3,.one (int ((i+1:Nat):Int))),(4,.one (.arr (.l 0) 1 (i+1) (es.length - i) (capn - (i+1)))),(7,.one (.arr (.o k) 1 i (es.length - i) (cap - i)))] follows (by kernel_rfl) rfl rfl rfl rfl ?_ ?_
   ·refine .step rfl (zHP (AStep.arith rfl rfl rfl (.inl ⟨rfl,by omega⟩) zI)) ?_
    refine .step rfl (zHP (AStep.sliceOwn' (a:=i+1) (b:=es.length+1) (c:=capn) tabOk rfl rfl rfl rfl rfl rfl ⟨_,rfl⟩ rfl rfl (fun h=>by cases h) (by omega) (by omega) (by omega) (by rw[if_neg (by omega)]) (by omega) rfl)) ?_
    exact .step rfl (zHP (AStep.sliceOwn' (a:=i) (b:=es.length) (c:=cap) tabOk rfl rfl rfl rfl rfl rfl ⟨_,rfl⟩ rfl rfl (fun h=>by cases h) (by omega) (by omega) (by omega) (by rw[if_neg (by omega)]) rfl rfl)) .nil
   refine zA ?_
   refine zS (AStep.copyOwn (es:=es.take i++[e0]) (es2:=es) (es':=putAt es i (e0)) (k:=es.length - i) tabOk rfl rfl rfl rfl rfl rfl rfl rfl h1e (by simp;omega) (by simp;omega) hk hes hc (by omega) (by omega) (by omega) (by rw[List.take_of_length_le (by simp;omega),List.drop_of_length_le (l:=es.take i++[e0]) (by simp;omega),List.take_of_length_le (l:=es.drop i) (by simp)];simp[putAt])) ?_
   have hcp:(putAt es i (e0)).length<=capn:=by omega
   refine AOps.cede 0 (show 0 < 1 by omega) fun k' hk'=>⟨[(9,.one (.arr (.o k') 1 0 (es.length+1) capn))],⟨1,[],updO ou k' (.cells (vec 1 (putAt es i (e0)) capn))⟩,⟨CedFr.get (.cons rfl rfl .nil),rfl,fun q x hx=>?_⟩,?_⟩
   ·cases q with
    |l m=>cases hx
    |o m=>
     have hx':updO ou k' (.cells (vec 1 (putAt es i (e0)) capn)) m=some x:=hx
     by_cases e:k'=m
     ·subst e;rw[Q03]at hx';cases hx'
      exact⟨.l 0,_,rfl,rfl,(AObj.sub_o _ (Q09 _ hpi)).symm⟩
     ·rw[Q06 _ e]at hx'
      exact⟨.o m,x,hx',rfl,(AObj.sub_o x (hou m x hx')).symm⟩
   have hk2:ou k'=none:=hk'
   refine zA ?_
   refine AFn.fin' rfl (.refl _) (by simp) (Q0o hou (Q09 _ hpi)) ⟨k',capn,hcp,by rw[hpl],Q03 _ _ _,.inr hk2,fun m h1 h=>?_⟩
   show updO ou k' _ m=ou m
   rw[Q06 _ (fun e=>h e.symm)]
  ·have hgr:es.length+1<=cap:=by simp at hb2;omega
   clear hb hb2
   refine zA ?_
   refine zS (AStep.arith rfl rfl rfl (.inl ⟨rfl,rfl⟩) zI) ?_
   refine zA ?_
   refine zS (AStep.sliceOwn' (a:=0) (b:=es.length+1) (c:=cap) (off':=0) (m':=es.length+1) (c':=cap) tabOk rfl rfl rfl rfl rfl rfl rfl ⟨_,rfl⟩ rfl (fun h=>by cases h) (by omega) (by omega) (by omega) (by simp) (by omega) (by omega)) ?_
   refine zA ?_
   refine zS (AStep.arith rfl rfl rfl (.inl ⟨rfl,rfl⟩) zI) ?_
   refine zA ?_
   refine zS (AStep.sliceOwn' (a:=i+1) (b:=es.length+1) (c:=cap) (off':=i+1) (m':=es.length - i) (c':=cap - (i+1)) tabOk rfl rfl rfl rfl rfl rfl ⟨_,rfl⟩ rfl rfl (fun h=>by cases h) (by omega) (by omega) (by omega) (by rw[if_neg (by omega)]) (by omega) (by omega)) ?_
   refine zA ?_
   refine zS (AStep.overlapsSl (t:=166) (tR:=4) (news:=[e0]) tabOk rfl rfl rfl rfl rfl Qgn rfl rfl (by simp) (by omega) hk (by rw[Q47 hes hc];omega)) ?_
   refine zA ?_
   refine ACode.drawX tabOk 8 [(3,.one (int ((i+1:Nat):Int))),(4,.one (.arr (.o k) 1 (i+1) (es.length - i) (cap - (i+1)))),(7,.one (.arr (.o k) 1 i (es.length+1 - i) (cap - i)))] follows (by kernel_rfl) rfl rfl rfl rfl ?_ ?_
   ·refine .step rfl (zHP (AStep.arith rfl rfl rfl (.inl ⟨rfl,by omega⟩) zI)) ?_
    refine .step rfl (zHP (AStep.sliceOwn' (a:=i+1) (b:=es.length+1) (c:=cap) tabOk rfl rfl rfl rfl rfl rfl ⟨_,rfl⟩ rfl rfl (fun h=>by cases h) (by omega) (by omega) (by omega) (by rw[if_neg (by omega)]) (by omega) rfl)) ?_
    exact .step rfl (zHP (AStep.sliceOwn' (a:=i) (b:=es.length+1) (c:=cap) tabOk rfl rfl rfl rfl rfl rfl ⟨_,rfl⟩ rfl rfl (fun h=>by cases h) (by omega) (by omega) (by omega) (by rw[if_neg (by omega)]) rfl rfl)) .nil
   refine zA ?_
   have h1e:∀x∈es.take (i+1)++es.drop i,x.length=1:=fun x hx=>by
    rcases List.mem_append.1 hx with h|h
    ·exact hes x (List.mem_of_mem_take h)
    ·exact hes x (List.mem_of_mem_drop h)
   refine zS (AStep.copyOwn (es:=es) (es2:=es) (es':=es.take (i+1)++es.drop i) (k:=es.length - i) tabOk rfl rfl rfl rfl rfl rfl rfl hk hes hc (by omega) hk hes hc (by omega) (by omega) (by omega) (by rw[List.drop_of_length_le (i:=i+1+(es.length - i)) (l:=es) (by omega),List.take_of_length_le (l:=es.drop i) (by simp)];simp)) ?_
   rw[Q1n]
   refine zA ?_
   refine zS (AStep.sliceOwn' (a:=i) (b:=es.length+1) (c:=cap) (off':=i) (m':=es.length+1 - i) (c':=cap - i) tabOk rfl rfl rfl rfl rfl rfl ⟨_,rfl⟩ rfl rfl (fun h=>by cases h) (by omega) (by omega) (by omega) (by rw[if_neg (by omega)]) rfl rfl) ?_
   refine zA ?_
   have h2l:(es.take (i+1)++es.drop i).length=es.length+1:=by simp;omega
   have h3e:(es.take (i+1)++es.drop i).take i++[e0]++(es.take (i+1)++es.drop i).drop (i+1)=putAt es i (e0):=by
    have e1:(es.take (i+1)).length=i+1:=by simp;omega
    rw[List.take_append_of_le_length (by omega),List.take_take,List.drop_append_of_le_length (by omega),List.drop_of_length_le (l:=es.take (i+1)) (by omega)]
    simp[putAt]
   refine zS (AStep.copySl (es:=es.take (i+1)++es.drop i) (news:=[e0]) (es':=putAt es i (e0)) tabOk rfl rfl rfl rfl rfl rfl rfl (.sl 1 _) (by simp) (Q03 _ _ _) h1e (by omega) (by omega) (by simp;omega) (by simp;omega) h3e) ?_
   rw[Q1n,Q5y]
   refine zA ?_
   refine AFn.fin' rfl (.refl _) (by simp) (Q0o hou (Q09 _ hpi)) ⟨k,cap,by omega,by rw[hpl],Q03 _ _ _,.inl rfl,fun m h1 h=>?_⟩
   show updO ou k _ m=ou m
   rw[Q06 _ (fun e=>h e.symm)]
abbrev u64 (n:Int):AC:=.lit (.int .u64 n)
theorem Q0z{n:Int}(h1:0<=n)(h2:n<=18446744073709551615):Q3u .u64 n:=by
 constructor <;> simp[IntKind.min,IntKind.max,IntKind.signed,IntKind.bits] <;> omega
theorem Ql0{n:Nat}(h:n<=1048576):n &&& 4294967295=n:=by
 have e:n &&& 4294967295=n % 4294967296:=Nat.and_two_pow_sub_one_eq_mod n 32
 rw[e];omega
theorem Ql6(n:Nat)(hn:n<=1048576):APure Tryz.prog Γ 207 [.one (u64 1),.one (u64 n)] (.tup [.one (u64 0),.one (u64 n)]):=by
 intro ou
 have hz:(n:Int) / 2 ^ (32:Int).toNat=0:=by
  rw[show (2:Int) ^ (32:Int).toNat=4294967296 by decide];omega
 have hm:=Ql0 hn
 refine AFn.walk 51 tabOk Tryz.func207 rfl (by kernel_rfl) rfl rfl fun hou=>?_
 refine zA ?_
 refine zS (AStep.andU (a:=1) (b:=4294967295) (by decide) (by decide) rfl rfl rfl) ?_
 refine AOps.wk 15 rfl (y:=.one (u64 1)) (.ofEq rfl) ?_
 refine zA ?_
 refine zS (AStep.shr rfl rfl rfl (by decide) (by decide)) ?_
 refine AOps.wk 17 rfl (y:=.one (u64 0)) (.ofEq rfl) ?_
 refine zA ?_
 refine zS (AStep.andU (a:=n) (b:=4294967295) (by omega) (by decide) rfl rfl rfl) ?_
 refine AOps.wk 19 rfl (y:=.one (u64 n)) (.ofEq (by rw[hm])) ?_
 refine zA ?_
 refine zS (AStep.shr rfl rfl rfl (by decide) (by decide)) ?_
 refine AOps.wk 21 rfl (y:=.one (u64 0)) (.ofEq (by rw[hz])) ?_
 refine zA ?_
 refine zS (AStep.arith rfl rfl rfl (.inr (.inr ⟨rfl,rfl⟩)) (Q0z (by omega) (by omega))) ?_
 refine AOps.wk 24 rfl (y:=.one (u64 n)) (.ofEq (by rw[Int.one_mul])) ?_
 refine zA ?_
 refine zS (AStep.arith rfl rfl rfl (.inr (.inr ⟨rfl,rfl⟩)) (Q0z (by omega) (by omega))) ?_
 refine AOps.wk 27 rfl (y:=.one (u64 0)) (.ofEq (by rw[Int.zero_mul])) ?_
 refine zA ?_
 refine zS (AStep.shr rfl rfl rfl (by decide) (by decide)) ?_
 refine AOps.wk 29 rfl (y:=.one (u64 0)) (.ofEq (by rw[hz])) ?_
 refine zS (AStep.arith rfl rfl rfl (.inl ⟨rfl,rfl⟩) (Q0z (by decide) (by decide))) ?_
 refine AOps.wk 30 rfl (y:=.one (u64 0)) (.ofEq rfl) ?_
 refine zA ?_
 refine zS (AStep.andU (a:=0) (b:=4294967295) (by decide) (by decide) rfl rfl rfl) ?_
 refine AOps.wk 32 rfl (y:=.one (u64 0)) (.ofEq rfl) ?_
 refine zA ?_
 refine zS (AStep.shr rfl rfl rfl (by decide) (by decide)) ?_
 refine AOps.wk 34 rfl (y:=.one (u64 0)) (.ofEq rfl) ?_
 refine zA ?_
 refine zS (AStep.arith rfl rfl rfl (.inr (.inr ⟨rfl,rfl⟩)) (Q0z (by decide) (by decide))) ?_
 refine zS (AStep.arith rfl rfl rfl (.inl ⟨rfl,rfl⟩) (Q0z (by decide) (by decide))) ?_
 refine AOps.wk 39 rfl (y:=.one (u64 0)) (.ofEq rfl) ?_
 refine zA ?_
 refine zS (AStep.arith rfl rfl rfl (.inr (.inr ⟨rfl,rfl⟩)) (Q0z (by decide) (by decide))) ?_
 refine zA ?_
 refine zS (AStep.arith rfl rfl rfl (.inl ⟨rfl,rfl⟩) (Q0z (by decide) (by decide))) ?_
 refine zA ?_
 refine zS (AStep.shr rfl rfl rfl (by decide) (by decide)) ?_
 refine zS (AStep.arith rfl rfl rfl (.inl ⟨rfl,rfl⟩) (Q0z (by decide) (by decide))) ?_
 refine AOps.wk 47 rfl (y:=.one (u64 0)) (.ofEq rfl) ?_
 refine zA ?_
 refine zS (AStep.arith rfl rfl rfl (.inr (.inr ⟨rfl,rfl⟩)) (Q0z (by omega) (by omega))) ?_
 refine AOps.wk 50 rfl (y:=.one (u64 n)) (.ofEq (by rw[Int.one_mul])) ?_
 refine zA ?_
 exact APure.fin rfl (WkF.ofEq rfl) (by simp) hou rfl
theorem BMul_ok(hΓ:∀g cs,(g,cs)∈Γ->idsL isO cs)(n:Nat)(hn:n<=1048576):APure Tryz.prog Γ 203 [.one (u64 1),.one (u64 n)] (.tup [.one (u64 0),.one (u64 n)]):=by
 intro ou
 refine AFn.walk 30 tabOk Tryz.func203 rfl (by kernel_rfl) rfl rfl fun hou=>?_
 refine zA ?_
 refine AOps.callC hΓ (Ql6 n hn) rfl rfl rfl rfl rfl rfl rfl hou (by simp[idsF]) ?_
 refine zA ?_
 exact APure.fin rfl (WkF.ofEq rfl) (by simp) hou rfl
def repE (c:AC)(k n:Nat):List (List AC):=List.replicate k [c]++List.replicate (n - k) [.lit .nilIface]
theorem Q22{c:AC}{k n:Nat}(h:k<=n):(repE c k n).length=n:=by simp[repE];omega
theorem Q5f(c:AC)(k n:Nat):∀x∈repE c k n,x.length=1:=fun x hx=>by
 unfold repE at hx
 rcases List.mem_append.1 hx with h|h <;> · rw[(List.mem_replicate.1 h).2];rfl
theorem Q3g{c:AC}(hc:c.ids isO)(k n:Nat):idsS isO (repE c k n):=Q1k.2 fun x hx=>by
 unfold repE at hx
 rcases List.mem_append.1 hx with h|h
 ·rw[(List.mem_replicate.1 h).2];exact⟨hc,trivial⟩
 ·rw[(List.mem_replicate.1 h).2];exact⟨trivial,trivial⟩
theorem Qb2(c:AC){k n j:Nat}(hk:k<=n)(hj:j=min k (n - k)):(repE c k n).take k++((repE c k n).drop 0).take j++(repE c k n).drop (k+j)=repE c (k+j) n:=by
 unfold repE
 rw[List.drop_zero,List.take_append_of_le_length (by simp),List.take_of_length_le (by simp),List.take_append_of_le_length (by simp;omega),List.take_replicate,List.drop_append,List.drop_replicate]
 simp only[List.length_replicate,List.drop_replicate]
 rw[show k - (k+j)=0 by omega,show n - k - (k+j - k)=n - (k+j) by omega,Nat.min_eq_left (by omega),List.replicate_zero,List.nil_append,List.replicate_append_replicate]
theorem Q9k{s n:Nat}{es:List (List AC)}(h:es.length=n):vec s es n=es.flatten:=by simp[vec,h]
theorem Q72(c:AC):∀n:Nat,(List.replicate n [c]).flatten=List.replicate n c
 |0=>rfl
 |n+1=>by rw[List.replicate_succ,List.flatten_cons,Q72 c n,List.replicate_succ];rfl
theorem Qiz(hΓ:∀g cs,(g,cs)∈Γ->idsL isO cs)(c:AC)(hc:c.ids isO)(n:Nat)(hn:n<=1048576)(ou:Outer):
  AFn Tryz.prog Γ 197 [.one (.sl 1 [[c]]),.one (int n)] ou (fun r ou'=>∃q,r=.one (.arr (.o q) 1 0 n n)/\NewO ou ou' [(q,.cells (List.replicate n c))]):=by
 have hcl:∀k,c.ids (inL k):=fun k=>Q0s hc k
 refine AFn.walk 48 tabOk Tryz.func197 rfl (by kernel_rfl) rfl rfl fun hou=>?_
 refine zA ?_
 refine zS (AStep.convInt rfl (by rw[Tryz.underlying3];rfl) Tryz.underlying147 rfl (Q0z (by simp) (by simp))) ?_
 refine zA ?_
 refine zS (AStep.convInt rfl (by rw[Tryz.underlying3];rfl) Tryz.underlying147 rfl (Q0z (by omega) (by omega))) ?_
 refine AOps.callC hΓ (BMul_ok hΓ n hn) rfl rfl rfl rfl rfl rfl rfl hou (by simp[idsF]) ?_
 refine zA ?_
 refine ACode.cond rfl (fun hb=>absurd hb (by simp;omega)) (fun _=>?_)
 refine zA ?_
 refine zS (AStep.convInt rfl (by rw[Tryz.underlying147];rfl) Tryz.underlying3 rfl zI) ?_
 refine zS (AStep.makeArr (n:=n) (z:=.nilIface) tabOk rfl rfl rfl rfl rfl rfl rfl rfl (by show 16 * n<=_;omega) (by omega)) ?_
 have hst:(⟨0,[],ou⟩:St).push (.cells (List.replicate n (.lit .nilIface)))=⟨1,[(0,.cells (vec 1 (repE c 0 n) n))],ou⟩:=by
  rw[Q9k (Q22 (Nat.zero_le _))]
  unfold repE
  rw[List.replicate_zero,List.nil_append,Nat.sub_zero,Q72];rfl
 refine AOps.stEq hst ?_
 by_cases h0:n=0
 ·refine zA ?_
  refine zS (AStep.copy0 tabOk rfl rfl rfl rfl rfl h0 rfl) ?_
  refine zA ?_
  refine ACode.loopR hΓ (α:=Nat) (fun k=>[(8,.one (int (k:Nat))),(7,.one (.arr (.l 0) 1 0 n n))]) (fun k=>⟨1,[(0,.cells (vec 1 (repE c k n) n))],ou⟩) (fun m k=>(1<=k∨n=0)/\k<=n/\m=n - k) (a0:=0) (ρ:=id) ⟨by omega,by omega,rfl⟩ (LessR.of rfl zFS (by simp) ?_ rfl rfl hou) fun m k hk=>?_
  ·refine .cons rfl (by rw[AObj.ren_pure _ _ (Q09 _ (Q3g hc _ _))]) rfl (AObj.ids_mono Q2s _ (Q09 _ (Q3g hc _ _))) .nil
  obtain⟨hk1,hkn,rfl⟩:=hk
  refine zA ?_
  refine ACode.cond rfl (fun hb=>?_) (fun hb=>?_)
  ·have hlt:k < n:=by simpa using hb
   obtain⟨j,hj⟩:∃j,j=min k (n - k):=⟨_,rfl⟩
   have hj0:1<=j:=by omega
   refine zA ?_
   refine ACode.drawXH (va:=.one (int (j:Nat))) (σ1:=⟨1,[(0,.cells (vec 1 (repE c (k+j) n) n)),(0,.cells (vec 1 (repE c k n) n))],ou⟩) tabOk 9 7 [(3,.one (.arr (.l 0) 1 k (n - k) (n - k))),(6,.one (.arr (.l 0) 1 0 k n)),(8,.one (int ((k+j:Nat):Int)))] follows (by kernel_rfl) rfl rfl rfl rfl rfl rfl rfl ?_ ?_ ?_ ?_
   ·exact HStep.plain rfl (AStep.copyOwn (es:=repE c k n) (es2:=repE c k n) (es':=repE c (k+j) n) (k:=j) tabOk rfl rfl rfl rfl rfl rfl rfl (show (St.mk 1 [(0,.cells (vec 1 (repE c k n) n))] ou).get (.l 0)=_ from rfl) (Q5f _ _ _) (Nat.le_of_eq (Q22 hkn)) (by rw[Q22 hkn];omega) (show (St.mk 1 [(0,.cells (vec 1 (repE c k n) n))] ou).get (.l 0)=_ from rfl) (Q5f _ _ _) (Nat.le_of_eq (Q22 hkn)) hj.symm (by rw[Q22 hkn];omega) (by omega) (Qb2 c hkn hj))
   ·refine .step rfl (zHP (AStep.sliceOwn' (a:=k) (b:=n) (c:=n) tabOk rfl rfl rfl rfl rfl rfl ⟨_,rfl⟩ rfl rfl (fun h=>by cases h) (by omega) (by omega) (by omega) (by rw[if_neg (by omega)]) rfl rfl)) ?_
    refine .step rfl (zHP (AStep.sliceOwn' (a:=0) (b:=k) (c:=n) tabOk rfl rfl rfl rfl rfl rfl rfl ⟨_,rfl⟩ rfl (fun h=>by cases h) (by omega) (by omega) (by omega) (by simp) (by omega) (by omega))) ?_
    exact .step rfl (zHP (AStep.arith rfl rfl rfl (.inl ⟨rfl,by omega⟩) zI)) .nil
   ·refine .step rfl (zHP (AStep.sliceOwn' (a:=k) (b:=n) (c:=n) tabOk rfl rfl rfl rfl rfl rfl ⟨_,rfl⟩ rfl rfl (fun h=>by cases h) (by omega) (by omega) (by omega) (by rw[if_neg (by omega)]) rfl rfl)) ?_
    refine .step rfl (zHP (AStep.sliceOwn' (a:=0) (b:=k) (c:=n) tabOk rfl rfl rfl rfl rfl rfl rfl ⟨_,rfl⟩ rfl (fun h=>by cases h) (by omega) (by omega) (by omega) (by simp) (by omega) (by omega))) ?_
    exact .step rfl (zHP (AStep.arith rfl rfl rfl (.inl ⟨rfl,by omega⟩) zI)) .nil
   refine zA ?_
   refine cInv ⟨n - (k+j),k+j,id,by omega,⟨by omega,by omega,rfl⟩,LessR.of rfl zFS (by simp) ?_ rfl rfl hou⟩
   refine .cons rfl (by rw[AObj.ren_pure _ _ (Q09 _ (Q3g hc _ _))]) rfl (AObj.ids_mono Q2s _ (Q09 _ (Q3g hc _ _))) .nil
  ·have hkn:k=n:=by simp at hb;omega
   subst hkn
   repeat ((fail_if_success ((with_reducible refine oj ?_);refine AOps.atDst 47 rfl ?_));first|refine zO ?_)
   have hee:vec 1 (repE c k k) k=List.replicate k c:=by
    rw[Q9k (Q22 (Nat.le_refl _))]
    unfold repE
    rw[Nat.sub_self,List.replicate_zero,List.append_nil,Q72]
   have hci:idsL isO (List.replicate k c):=Q2x.2 fun x hx=>by rw[(List.mem_replicate.1 hx).2];exact hc
   refine AOps.cedes [0] rfl (by decide) hou fun q hq=>⟨[(7,.one (.arr (.o q) 1 0 k k))],[],[.cells (List.replicate k c)],.cons rfl rfl .nil,.nil,.cons rfl ?_ .nil,?_⟩
   ·rw[hee];exact AObj.sub_f (fun i hi=>by cases i with|l q=>exact hi.elim|o q=>rfl) _ hci
   have hN:NewO ou (ouAdd ou q [.cells (List.replicate k c)]) [(q,.cells (List.replicate k c))]:=NewO.add hq hou hci
   refine zA ?_
   exact AFn.fin' rfl (WkF.ofEq rfl) (by simp) hN.ok ⟨q,rfl,hN⟩
 have hcp:∀k,k<=n->(St.mk 1 [(0,.cells (vec 1 (repE c k n) n))] ou).get (.l 0)=some (.cells (vec 1 (repE c k n) n)):=fun k _=>rfl
 refine zA ?_
 refine zS (AStep.copySl (es:=repE c 0 n) (news:=[[c]]) (es':=repE c 1 n) tabOk rfl rfl rfl rfl rfl rfl rfl (.sl 1 _) (by simp) (hcp 0 (by omega)) (Q5f c 0 n) (Nat.le_of_eq (Q22 (Nat.zero_le n))) (by omega) (by simp;omega) (by simp;omega) ?_) ?_
 ·unfold repE
  simp
 refine zA ?_
 refine ACode.loopR hΓ (α:=Nat) (fun k=>[(8,.one (int (k:Nat))),(7,.one (.arr (.l 0) 1 0 n n))]) (fun k=>⟨1,[(0,.cells (vec 1 (repE c k n) n))],ou⟩) (fun m k=>(1<=k∨n=0)/\k<=n/\m=n - k) (a0:=1) (ρ:=id) ⟨by omega,by omega,rfl⟩ (LessR.of rfl zFS (by simp) ?_ rfl rfl hou) fun m k hk=>?_
 ·refine .cons rfl (by rw[AObj.ren_pure _ _ (Q09 _ (Q3g hc _ _))]) rfl (AObj.ids_mono Q2s _ (Q09 _ (Q3g hc _ _))) .nil
 obtain⟨hk1,hkn,rfl⟩:=hk
 refine zA ?_
 refine ACode.cond rfl (fun hb=>?_) (fun hb=>?_)
 ·have hlt:k < n:=by simpa using hb
  obtain⟨j,hj⟩:∃j,j=min k (n - k):=⟨_,rfl⟩
  have hj0:1<=j:=by omega
  refine zA ?_
  refine ACode.drawXH (va:=.one (int (j:Nat))) (σ1:=⟨1,[(0,.cells (vec 1 (repE c (k+j) n) n)),(0,.cells (vec 1 (repE c k n) n))],ou⟩) tabOk 9 7 [(3,.one (.arr (.l 0) 1 k (n - k) (n - k))),(6,.one (.arr (.l 0) 1 0 k n)),(8,.one (int ((k+j:Nat):Int)))] follows (by kernel_rfl) rfl rfl rfl rfl rfl rfl rfl ?_ ?_ ?_ ?_
  ·exact HStep.plain rfl (AStep.copyOwn (es:=repE c k n) (es2:=repE c k n) (es':=repE c (k+j) n) (k:=j) tabOk rfl rfl rfl rfl rfl rfl rfl (show (St.mk 1 [(0,.cells (vec 1 (repE c k n) n))] ou).get (.l 0)=_ from rfl) (Q5f _ _ _) (Nat.le_of_eq (Q22 hkn)) (by rw[Q22 hkn];omega) (show (St.mk 1 [(0,.cells (vec 1 (repE c k n) n))] ou).get (.l 0)=_ from rfl) (Q5f _ _ _) (Nat.le_of_eq (Q22 hkn)) hj.symm (by rw[Q22 hkn];omega) (by omega) (Qb2 c hkn hj))
  ·refine .step rfl (zHP (AStep.sliceOwn' (a:=k) (b:=n) (c:=n) tabOk rfl rfl rfl rfl rfl rfl ⟨_,rfl⟩ rfl rfl (fun h=>by cases h) (by omega) (by omega) (by omega) (by rw[if_neg (by omega)]) rfl rfl)) ?_
   refine .step rfl (zHP (AStep.sliceOwn' (a:=0) (b:=k) (c:=n) tabOk rfl rfl rfl rfl rfl rfl rfl ⟨_,rfl⟩ rfl (fun h=>by cases h) (by omega) (by omega) (by omega) (by simp) (by omega) (by omega))) ?_
   exact .step rfl (zHP (AStep.arith rfl rfl rfl (.inl ⟨rfl,by omega⟩) zI)) .nil
  ·refine .step rfl (zHP (AStep.sliceOwn' (a:=k) (b:=n) (c:=n) tabOk rfl rfl rfl rfl rfl rfl ⟨_,rfl⟩ rfl rfl (fun h=>by cases h) (by omega) (by omega) (by omega) (by rw[if_neg (by omega)]) rfl rfl)) ?_
   refine .step rfl (zHP (AStep.sliceOwn' (a:=0) (b:=k) (c:=n) tabOk rfl rfl rfl rfl rfl rfl rfl ⟨_,rfl⟩ rfl (fun h=>by cases h) (by omega) (by omega) (by omega) (by simp) (by omega) (by omega))) ?_
   exact .step rfl (zHP (AStep.arith rfl rfl rfl (.inl ⟨rfl,by omega⟩) zI)) .nil
  refine zA ?_
  refine cInv ⟨n - (k+j),k+j,id,by omega,⟨by omega,by omega,rfl⟩,LessR.of rfl zFS (by simp) ?_ rfl rfl hou⟩
  refine .cons rfl (by rw[AObj.ren_pure _ _ (Q09 _ (Q3g hc _ _))]) rfl (AObj.ids_mono Q2s _ (Q09 _ (Q3g hc _ _))) .nil
 ·have hkn:k=n:=by simp at hb;omega
  subst hkn
  repeat ((fail_if_success ((with_reducible refine oj ?_);refine AOps.atDst 47 rfl ?_));first|refine zO ?_)
  have hee:vec 1 (repE c k k) k=List.replicate k c:=by
   rw[Q9k (Q22 (Nat.le_refl _))]
   unfold repE
   rw[Nat.sub_self,List.replicate_zero,List.append_nil,Q72]
  have hci:idsL isO (List.replicate k c):=Q2x.2 fun x hx=>by rw[(List.mem_replicate.1 hx).2];exact hc
  refine AOps.cedes [0] rfl (by decide) hou fun q hq=>⟨[(7,.one (.arr (.o q) 1 0 k k))],[],[.cells (List.replicate k c)],.cons rfl rfl .nil,.nil,.cons rfl ?_ .nil,?_⟩
  ·rw[hee];exact AObj.sub_f (fun i hi=>by cases i with|l q=>exact hi.elim|o q=>rfl) _ hci
  have hN:NewO ou (ouAdd ou q [.cells (List.replicate k c)]) [(q,.cells (List.replicate k c))]:=NewO.add hq hou hci
  refine zA ?_
  exact AFn.fin' rfl (WkF.ofEq rfl) (by simp) hN.ok ⟨q,rfl,hN⟩
section
variable {fu:Int}{fc:FcT}{fns:List Fun}{ou ou':Outer}{H:Hm}{nm:Nm2}{m:Ms}{tc ec vc kc:AC}{heap:List (List Vl)}
theorem VsR.rep{v:Vl}{c:AC}(h:VR H nm v c):∀n:Nat,VsR H nm (List.replicate n v) ((List.replicate n c).map fun c=>[c])
 |0=>.nil
 |n+1=>by rw[List.replicate_succ,List.replicate_succ];exact .cons _ _ _ _ h (VsR.rep h n)
theorem Q64{nm:Nm2}{x:Nat×Nat}{a k n:Nat}(h:(nm++[x])[a]?=some (k,n)):nm[a]?=some (k,n)∨(a=nm.length/\x=(k,n)):=by
 by_cases hl:a < nm.length
 ·rw[List.getElem?_append_left hl]at h;exact .inl h
 ·have:=(List.getElem?_eq_some_iff.1 h).1
  simp at this
  have e:a=nm.length:=by omega
  subst e
  simp at h
  exact .inr ⟨rfl,h⟩
theorem Mo.snoc(H:Hm)(nm:Nm2)(x:Nat×Nat):Mo H nm H (nm++[x]):=⟨fun _ _ h=>h,fun a y h=>by rw[List.getElem?_append_left (List.getElem?_eq_some_iff.1 h).1];exact h⟩
theorem WR.addArr(w:WR ou H nm heap){q n:Nat}{c:AC}{v:Vl}(hN:NewO ou ou' [(q,.cells (List.replicate n c))])(hv:VR H nm v c)(h0:ou 0≠none):WR ou' H (nm++[(q,n)]) (heap++[List.replicate n v]):=by
 have hq:ou q=none:=hN.new q (by simp[keys])
 have hoq:ou' q=some (.cells (List.replicate n c)):=hN.own (q,.cells (List.replicate n c)) (by simp)
 have hold:∀k,k≠q->ou' k=ou k:=fun k hk=>hN.old k (by simpa[keys]using hk)
 have hmo:=Mo.snoc H nm (q,n)
 have hHq:H q=none:=by
  cases hh:H q with
  |none=>rfl
  |some cs=>have:=w.inO q cs hh;rw[hq]at this;cases this
 have hkq:∀(a k n:Nat),nm[a]?=some (k,n)->k≠q:=fun a k n h=>by
  rintro rfl
  obtain⟨cs,c1,_⟩:=w.arr a k n h
  rw[hq]at c1;cases c1
 have hq0:q≠0:=fun e=>h0 (e▸hq)
 refine⟨fun k cs hk=>?_,hN.ok,by simp[w.len],fun a k n' h=>?_,fun a k n' h=>?_,fun a b k n1 n2 h1 h2=>?_,⟨w.sep.1,fun a k n' h=>?_⟩,fun cs hc es i hi=>?_,fun k o hk=>?_⟩
 ·rw[hold k (by rintro rfl;rw[hHq]at hk;cases hk)];exact w.inO k cs hk
 ·rcases Q64 h with h|⟨rfl,h9⟩
  ·obtain⟨cs,c1,c2,c3⟩:=w.arr a k n' h
   have hal:a < heap.length:=by rw[←w.len];exact (List.getElem?_eq_some_iff.1 h).1
   refine⟨cs,by rw[hold k (hkq a k n' h)];exact c1,?_,c3⟩
   rw[Q71 hal]
   exact c2.mo hmo
  ·cases h9
   refine⟨_,hoq,?_,by simp⟩
   rw[w.len]
   simp only[List.getD_eq_getElem?_getD,List.getElem?_concat_length,Option.getD_some]
   exact (VsR.rep hv n).mo hmo
 ·rcases Q64 h with h|⟨rfl,h9⟩
  ·exact w.aH a k n' h
  ·cases h9;exact hHq
 ·rcases Q64 h1 with h1|⟨rfl,h9⟩ <;> rcases Q64 h2 with h2|⟨rfl,h8⟩
  ·exact w.aa a b k n1 n2 h1 h2
  ·cases h8;exact absurd rfl (hkq a _ _ h1)
  ·cases h9;exact absurd rfl (hkq b _ _ h2)
  ·rfl
 ·rcases Q64 h with h|⟨rfl,h9⟩
  ·exact w.sep.2 a k n' h
  ·cases h9;omega
 ·rw[hold 0 (Ne.symm hq0)]at hc
  obtain⟨kt,e1,e2,e3,e4,e5⟩:=w.tk cs hc es i hi
  have hkt:kt≠q:=by rintro rfl;rw[hq]at e3;cases e3
  refine⟨kt,e1,e2,by rw[hold kt hkt];exact e3,e4,fun a k n' h=>?_⟩
  rcases Q64 h with h|⟨rfl,h9⟩
  ·exact e5 a k n' h
  ·cases h9;exact Ne.symm hkt
 ·by_cases e:k=q
  ·subst e;rw[hoq]at hk;cases hk;trivial
  ·rw[hold k e]at hk;exact w.pl k o hk
theorem VsR.set:∀{l:List Vl}{cs:List AC}{i:Nat}{v:Vl}{c:AC},VsR H nm l (cs.map fun c=>[c])->VR H nm v c->VsR H nm (l.set i v) ((cs.set i c).map fun c=>[c])
 |[],cs,i,v,c,h,hv=>by
  cases cs with
  |nil=>exact .nil
  |cons x xs=>cases h
 |x::l,cs,i,v,c,h,hv=>by
  cases cs with
  |nil=>cases h
  |cons y cs=>
   obtain⟨c',ds,e,h1,h2⟩:=h.consE
   simp only[List.map_cons,List.cons.injEq,and_true]at e
   obtain⟨rfl,rfl⟩:=e
   cases i with
   |zero=>exact .cons _ _ _ _ hv h2
   |succ i=>exact .cons _ _ _ _ h1 (VsR.set h2 hv)
theorem WR.setArr(w:WR ou H nm heap){a k n i:Nat}{cs:List AC}{c:AC}{v:Vl}(ha:nm[a]?=some (k,n))(hk:ou k=some (.cells cs))(hv:VR H nm v c)(h1:ou' k=some (.cells (cs.set i c)))(h2:∀j,j≠k->ou' j=ou j):WR ou' H nm (heap.set a ((heap.getD a []).set i v)):=by
 have hHk:=w.aH a k n ha
 have h1k:=w.sep.2 a k n ha
 have hci:idsL isO (cs.set i c):=Q2x.2 fun x hx=>by
  rcases List.mem_or_eq_of_mem_set hx with h|rfl
  ·exact Q2x.1 (w.ok k _ hk) x h
  ·exact hv.ids
 have hal:a < heap.length:=by rw[←w.len];exact (List.getElem?_eq_some_iff.1 ha).1
 refine⟨fun j ds hj=>?_,fun j o hj=>?_,by simp[w.len],fun b q n' h=>?_,w.aH,w.aa,w.sep,fun ds hc es x hx=>?_,fun j o hj=>?_⟩
 ·rw[h2 j (by rintro rfl;rw[hHk]at hj;cases hj)];exact w.inO j ds hj
 ·by_cases e:j=k
  ·subst e;rw[h1]at hj;cases hj;exact hci
  ·rw[h2 j e]at hj;exact w.ok j o hj
 ·obtain⟨ds,c1,c2,c3⟩:=w.arr b q n' h
  by_cases e:q=k
  ·subst e
   have hab:=w.aa a b q n n' ha h
   subst hab
   rw[hk]at c1;cases c1
   refine⟨_,h1,?_,by simpa using c3⟩
   rw[List.getD_eq_getElem?_getD,List.getElem?_set_self hal]
   exact c2.set hv
  ·have hab:a≠b:=by rintro rfl;rw[ha]at h;cases h;exact e rfl
   refine⟨ds,by rw[h2 q e];exact c1,?_,c3⟩
   rw[List.getD_eq_getElem?_getD,List.getElem?_set_ne hab,←List.getD_eq_getElem?_getD]
   exact c2
 ·rw[h2 0 (by omega)]at hc
  obtain⟨kt,e1,e2,e3,e4,e5⟩:=w.tk ds hc es x hx
  exact⟨kt,e1,e2,by rw[h2 kt (Ne.symm (e5 a k n ha))];exact e3,e4,e5⟩
 ·by_cases e:j=k
  ·subst e;rw[h1]at hj;cases hj;trivial
  ·rw[h2 j e]at hj;exact w.pl j o hj
theorem prim_pr(hΓ:∀g cs,(g,cs)∈Γ->idsL isO cs)(h0:M0 fu fc ou H nm m tc ec vc kc)(hfc:fc.ids isO){v:Vl}{c:AC}(hv:VR H nm v c)(hol:m.out.length<=1000):
  AFnP Tryz.prog Γ 179 [.one (.ptr (.o 0) 0),.one (int 7),.one (.sl 1 [[c]])] ou (PlE fu fc H nm (primM fu m 7 [v]) tc ec vc kc) (PlP m (primM fu m 7 [v])):=by
 have hvi:=hv.ids
 by_cases hl:m.out.length=1000
 ·have hpr:=h0.pr
  have hoX:=h0.ouX
  have hw:=h0.w.ok
  rw[hoX]at hpr hw ⊢
  generalize hmc:ou=ou0 at hpr hw
  clear hoX
  refine AFnP.walk 152 tabOk hΓ Tryz.func179 rfl (by kernel_rfl) rfl rfl fun hou=>?_
  refine zA ?_
  refine ACode.cond rfl (fun _=>?_) (fun hb=>absurd hb (by simp[hl]))
  refine zA ?_
  refine zS (zIA rfl rfl rfl (by decide) rfl) ?_
  refine zA ?_
  rcases hv.isWord with ⟨x,rfl,rfl⟩|⟨hvn,hno⟩
  ·refine AOps.callC hΓ (Q0g x) rfl rfl rfl rfl rfl rfl rfl hou (by simp[idsF,iW]) ?_
   refine zA ?_
   refine zS (AStep.mkIfcA Q0p rfl rfl) ?_
   exact AOps.panicI rfl rfl rfl fun w C u hu=>⟨hou,6,by simp[primM,wordV,bind,Except.bind,hl],Q0t hu,hpr⟩
  ·refine AOps.callP hΓ (Qc8 hΓ hno _) rfl rfl rfl rfl rfl rfl hou ⟨hvi,trivial⟩ (fun ps ou' h ho=>?_) (fun r ou' h _ _=>h.elim)
   obtain⟨rfl,rfl⟩:=h
   exact⟨ho,5,by simp[primM,Q4r hvn,bind,Except.bind],rfl,hpr⟩
 ·rcases hv.isWord with ⟨x,rfl,rfl⟩|⟨hvn,hno⟩
  ·refine AFn.toP ((Q8q hΓ h0 hfc x hol hl).mono fun r ou' hq=>⟨_,_,?_,hq⟩)
   simp[primM,wordV,bind,Except.bind,hl]
   rfl
  ·have hpr:=h0.pr
   have hoX:=h0.ouX
   rw[hoX]at hpr ⊢
   generalize hmc:ou=ou0 at hpr
   clear hoX
   refine AFnP.walk 152 tabOk hΓ Tryz.func179 rfl (by kernel_rfl) rfl rfl fun hou=>?_
   refine zA ?_
   refine ACode.cond rfl (fun hb=>absurd (by simpa using hb) (show ¬((m.out.length:Int)=1000) by omega)) (fun _=>?_)
   refine zA ?_
   refine ACode.drawPan tabOk 13 8 [9,10,11,12] [(6,.one (.box [c]))] follows (by kernel_rfl) rfl rfl (by kernel_rfl) (by kernel_rfl) rfl ?_ rfl rfl rfl (by kernel_rfl) rfl ?_
   ·exact⟨⟨_,rfl,zIA rfl rfl rfl (by decide) rfl⟩,trivial⟩
   ·exact Q16 hΓ hno hvi rfl rfl rfl hou fun ps hps=>⟨hou,5,by simp[primM,Q4r hvn,bind,Except.bind],hps,hpr⟩
theorem Qfl(hΓ:∀g cs,(g,cs)∈Γ->idsL isO cs)(h0:M0 fu fc ou H nm m tc ec vc kc)(hfc:fc.ids isO)(hst:0<=m.steps/\m.steps<=1000000)(hfu:0<=fu/\fu<=1000000)(many:Int){v:Vl}{c:AC}(hv:VR H nm v c):
  AFnP Tryz.prog Γ 192 [.one (.ptr (.o 0) 0),.one (int many),.one c] ou (PlE fu fc H nm (Q39 fu m many v) tc ec vc kc) (PlP m (Q39 fu m many v)):=by
 have hvi:=hv.ids
 have hpr:=h0.pr
 have hoX:=h0.ouX
 have hw:=h0.w
 have hids:=h0.ids
 rw[hoX]at hpr hw ⊢
 generalize hmc:ou=ou0 at hpr hw
 clear hoX
 refine AFnP.walk 43 tabOk hΓ Tryz.func192 rfl (by kernel_rfl) rfl rfl fun hou=>?_
 repeat ((fail_if_success ((with_reducible refine oj ?_);refine AOps.atDst 9 rfl ?_));first|refine zO ?_)
 by_cases hm0:many < 0
 ·refine AOps.wk 8 rfl (y:=.one (.lit (.bool true))) (.ofEq (by simpa using hm0)) ?_
  refine zM ?_
  refine zS (AStep.mkIfcA Q0p rfl rfl) ?_
  exact AOps.panicI rfl rfl rfl fun w C u hu=>⟨hou,6,by unfold Q39;rw[if_pos (.inl hm0)],Q0t hu,hpr⟩
 refine AOps.wk 8 rfl (y:=.one (.lit (.bool false))) (.ofEq (by simpa using hm0)) ?_
 refine zM ?_
 refine ACode.cond rfl (fun hb=>?_) (fun hb=>?_)
 ·have hm1:1024 < many:=by simpa using hb
  refine zM ?_
  refine zS (AStep.mkIfcA Q0p rfl rfl) ?_
  exact AOps.panicI rfl rfl rfl fun w C u hu=>⟨hou,6,by unfold Q39;rw[if_pos (.inr hm1)],Q0t hu,hpr⟩
 have hm1:¬1024 < many:=by simpa using hb
 clear hb
 obtain⟨n,rfl⟩:∃n:Nat,many=n:=⟨many.toNat,by omega⟩
 have hn:n<=1024:=by omega
 refine zA ?_
 refine ACode.drawX tabOk 10 [(9,.one (int (fu - m.steps)))] follows (by kernel_rfl) rfl rfl rfl rfl ?_ ?_
 ·exact⟨⟨_,rfl,AStep.arith rfl rfl rfl (.inr (.inl ⟨rfl,rfl⟩)) zI⟩,trivial⟩
 refine zA ?_
 refine ACode.cond rfl (fun hb=>?_) (fun hb=>?_)
 ·have hm2:fu - m.steps < n:=by simpa using hb
  refine zA ?_
  refine zS (AStep.mkIfcA Q0p rfl rfl) ?_
  exact AOps.panicI rfl rfl rfl fun w C u hu=>⟨hou,-1,by unfold Q39;rw[if_neg (by omega),if_pos hm2],Q0t hu,hpr⟩
 have hm2:¬fu - m.steps < n:=by simpa using hb
 clear hb
 refine zA ?_
 refine zS (AStep.arith rfl rfl rfl (.inl ⟨rfl,rfl⟩) zI) ?_
 refine zA ?_
 refine AOps.stEq (σ':=⟨0,[],ouX (mC tc ec vc kc m.out (m.steps+n) fu fc) m.out.length ou0⟩) (setX _ _ _ _) ?_
 have hw2:WR (ouX (mC tc ec vc kc m.out (m.steps+n) fu fc) m.out.length ou0) H nm m.heap:=hw.put (mc':=mC tc ec vc kc m.out (m.steps+n) fu fc) (by simp[mC,hids.1,hids.2.1,hids.2.2.1,hids.2.2.2,hfc]) rfl rfl (fun _=>rfl)
 refine zA ?_
 refine AOps.call1 hΓ rfl rfl rfl rfl rfl rfl rfl ⟨⟨⟨hvi,trivial⟩,trivial⟩,trivial,trivial⟩ hw2.ok (Qiz hΓ c hvi n (by omega) _) fun r ou' hq _ how=>?_
 obtain⟨q,rfl,hN⟩:=hq
 have hw3:=hw2.addArr hN hv (by simp[ouX])
 have h00:ou' 0=some (.cells (mC tc ec vc kc m.out (m.steps+n) fu fc)):=(hN.old 0 (by
  have:=hN.new q (by simp[keys])
  simp[keys]
  rintro rfl
  cases this)).trans rfl
 repeat ((fail_if_success ((with_reducible refine oj ?_);refine AOps.atDst 42 rfl ?_));first|refine zO ?_)
 refine AOps.freeze1 (.l 0) 41 rfl rfl ?_
 refine zS (AStep.mkIfc Qcx rfl rfl) ?_
 refine zA ?_
 have hfm:Q39 fu m n v=.ok ({ m with steps:=m.steps+n,heap:=m.heap++[List.replicate n v] },.arr m.heap.length):=by
  unfold Q39
  rw[if_neg (by omega),if_neg hm2]
  simp
 exact AFn.fin' rfl (WkF.ofEq rfl) (by simp[iB,AC.ids]) how ⟨_,_,hfm,fc.kt,H,nm++[(q,n)],iB tArr [.arr (.o q) 1 0 n n],rfl,Mo.snoc _ _ _,.arr m.heap.length q n (by rw[←hw.len];simp),hids,h00,hw3⟩
theorem Q9f{n:Int}{l:List Vl}{a:Nat}(h:l.getD 0 .nil=.arr a):Q2i m n l=if n=9 then .ok (m,.word (m.heap.getD a []).length) else
  match wordV (l.getD 1 .nil) with
  |.error e=>.error e
  |.ok i=>if i < 0∨((m.heap.getD a []).length:Int)<=i then .error 2 else if n=10 then .ok (m,(m.heap.getD a []).getD i.toNat .nil)else .ok ({ m with heap:=m.heap.set a ((m.heap.getD a []).set i.toNat (l.getD 2 .nil)) },.obj 0 []):=by
 unfold Q2i
 rw[h]
 simp only[Q6p,bind,Except.bind,pure,Except.pure]
 split
 ·rfl
 ·cases wordV (l.getD 1 .nil) <;> rfl
theorem Qfy{n:Int}{l:List Vl}(h:∀a,l.getD 0 .nil≠.arr a):Q2i m n l=.error 5:=by
 unfold Q2i
 generalize l.getD 0 .nil=v at h
 cases v <;> first|(exact absurd rfl (h _))|rfl
theorem Qd4(hΓ:∀g cs,(g,cs)∈Γ->idsL isO cs)(h0:M0 fu fc ou H nm m tc ec vc kc){n:Int}(hn:n=9∨n=10∨n=11){l:List Vl}{dc:List (List AC)}(hd:VsR H nm l dc)(hl:(l.length:Int)=Q2r.getD n.toNat 0)(hwd:∀v∈l,wdV v):
  AFnP Tryz.prog Γ 193 [.one (int n),.one (.sl 1 dc)] ou (PlE fu fc H nm (Q2i m n l) tc ec vc kc) (PlP m (Q2i m n l)):=by
 have hpr:=h0.pr
 have hw:=h0.w
 have hids:=h0.ids
 have hdi:=hd.ids
 obtain⟨v0,hv0⟩:∃v0,l[0]?=some v0:=Q01 (by rcases hn with rfl|rfl|rfl <;> simp[Q2r]at hl <;> omega)
 obtain⟨c0,hc0,hr0⟩:=hd.get hv0
 have hg0:l.getD 0 .nil=v0:=by rw[List.getD_eq_getElem?_getD,hv0];rfl
 have hi0:=hr0.ids
 refine AFnP.walk 57 tabOk hΓ Tryz.func193 rfl (by kernel_rfl) rfl rfl fun hou=>?_
 refine zA ?_
 refine zS (zIA rfl rfl rfl (by decide) hc0) ?_
 refine zA ?_
 rcases hr0.isArr with ⟨a,k,q,rfl,rfl,hnm⟩|⟨hva,hno⟩
 ·refine AOps.callC hΓ (Qhw k q) rfl rfl rfl rfl rfl rfl rfl hou (by simp[idsF,iB,AC.ids]) ?_
  obtain⟨cs,hk,hcs,hq⟩:=hw.arr a k q hnm
  have hhl:(m.heap.getD a []).length=q:=by have h7:=hcs.len;rw[List.length_map]at h7;omega
  rcases hn with rfl|hn
  ·refine zA ?_
   refine zS (AStep.mkIfc conc3 rfl rfl) ?_
   refine zA ?_
   refine AFn.fin' rfl (WkF.ofEq rfl) (by simp) hou ⟨m,.word q,?_,fc.kt,H,nm,iW q,rfl,.refl _ _,.word _,h0⟩
   rw[Q9f hg0,if_pos rfl,hhl]
  ·have h9:n≠9:=by omega
   obtain⟨v1,hv1⟩:∃v1,l[1]?=some v1:=Q01 (by rcases hn with rfl|rfl <;> simp[Q2r]at hl <;> omega)
   obtain⟨c1,hc1,hr1⟩:=hd.get hv1
   have hg1:l.getD 1 .nil=v1:=by rw[List.getD_eq_getElem?_getD,hv1];rfl
   have hi1:=hr1.ids
   have hAr:=Q9f (m:=m) (n:=n) hg0
   rw[if_neg h9,hg1]at hAr
   refine zA ?_
   refine ACode.cond rfl (fun hb=>absurd (by simpa using hb) h9) (fun _=>?_)
   refine zA ?_
   refine zS (zIA rfl rfl rfl (by decide) hc1) ?_
   refine zA ?_
   rcases hr1.isWord with ⟨i,rfl,rfl⟩|⟨hvn,hno⟩
   ·refine AOps.callC hΓ (Q0g i) rfl rfl rfl rfl rfl rfl rfl hou (by simp[idsF,iW]) ?_
    simp only[wordV]at hAr
    repeat ((fail_if_success ((with_reducible refine oj ?_);refine AOps.atDst 25 rfl ?_));first|refine zO ?_)
    by_cases hi0':i < 0
    ·refine AOps.wk 24 rfl (y:=.one (.lit (.bool true))) (.ofEq (by simpa using hi0')) ?_
     refine zM ?_
     refine zS (AStep.mkIfcA Q0p rfl rfl) ?_
     exact AOps.panicI rfl rfl rfl fun w C u hu=>⟨hou,2,by rw[hAr,if_pos (.inl hi0')],Q0t hu,hpr⟩
    refine AOps.wk 24 rfl (y:=.one (.lit (.bool false))) (.ofEq (by simpa using hi0')) ?_
    refine zM ?_
    refine ACode.cond rfl (fun hb=>?_) (fun hb=>?_)
    ·have hge:(q:Int)<=i:=by simpa using hb
     refine zM ?_
     refine zS (AStep.mkIfcA Q0p rfl rfl) ?_
     exact AOps.panicI rfl rfl rfl fun w C u hu=>⟨hou,2,by rw[hAr,if_pos (.inr (by omega))],Q0t hu,hpr⟩
    have hlt:i < (q:Int):=by simpa using hb
    clear hb
    obtain⟨j,rfl⟩:∃j:Nat,i=j:=⟨i.toNat,by omega⟩
    rw[if_neg (by omega)]at hAr
    have hjq:j < q:=by omega
    obtain⟨x,hx⟩:=Q01 (l:=m.heap.getD a []) (i:=j) (by omega)
    obtain⟨y,hy,hxy⟩:=hcs.get hx
    have hcj:cs[j]?=some y:=by
     rw[List.getElem?_map]at hy
     cases hcc:cs[j]? with
     |none=>rw[hcc]at hy;cases hy
     |some z=>rw[hcc]at hy;simpa using hy
    have hyi:=hxy.ids
    refine zA ?_
    rcases hn with rfl|rfl
    ·refine zA ?_
     refine zS (AStep.idxOwn tabOk rfl rfl rfl rfl rfl rfl rfl hjq) ?_
     refine zS (zLD rfl rfl hk (by rw[Nat.zero_mul,Nat.zero_add,Nat.mul_one];exact hcj)) ?_
     refine zA ?_
     refine AFn.fin' rfl (WkF.ofEq rfl) hyi hou ⟨m,x,?_,fc.kt,H,nm,y,rfl,.refl _ _,hxy,h0⟩
     rw[hAr,if_pos rfl,Int.toNat_natCast,List.getD_eq_getElem?_getD,hx];rfl
    ·obtain⟨v2,hv2⟩:∃v2,l[2]?=some v2:=Q01 (by simp[Q2r]at hl;omega)
     obtain⟨c2,hc2,hr2⟩:=hd.get hv2
     have hg2:l.getD 2 .nil=v2:=by rw[List.getD_eq_getElem?_getD,hv2];rfl
     have hil:=Q2x.1 (hw.ok k _ hk)
     refine zA ?_
     refine ACode.drawX tabOk 8 [(6,.one (.box [c2]))] follows (by kernel_rfl) rfl rfl rfl rfl ?_ ?_
     ·exact⟨⟨_,rfl,zIA rfl rfl rfl (by decide) hc2⟩,trivial⟩
     refine zS (AStep.idxOwn tabOk rfl rfl rfl rfl rfl rfl rfl hjq) ?_
     refine AOps.storeOwn tabOk rfl rfl rfl rfl rfl rfl rfl hk (by rw[Nat.zero_mul,Nat.zero_add,Nat.mul_one,←hq];exact hjq) ?_
     rw[show 0 * 1+j * 1=j by omega]
     have hw2:WR (St.set ⟨0,[],ou⟩ (.o k) (.cells (cs.set j c2))).ou H nm (m.heap.set a ((m.heap.getD a []).set j v2)):=hw.setArr hnm hk hr2 (by simp[St.set]) (fun p hp=>by simp[St.set,Q08 hp])
     have hko:=hw.sep.2 a k q hnm
     have how:=hw2.ok
     repeat ((fail_if_success ((with_reducible refine oj ?_);refine AOps.atDst 56 rfl ?_));first|refine zO ?_)
     refine AOps.freeze1 (.l 0) 55 rfl rfl ?_
     refine AOps.wk 55 rfl (y:=.one (.box [int 0,.sl 1 []])) (.one (Wk.box (.cons (.refl _) (.cons (.nilS 1) .nil)))) ?_
     refine zS (AStep.mkIfc Q3z rfl rfl) ?_
     refine zA ?_
     refine AFn.fin' rfl (WkF.ofEq rfl) (by simp[iB]) how ⟨{ m with heap:=m.heap.set a ((m.heap.getD a []).set j v2) },.obj 0 [],?_,fc.kt,H,nm,iB tObj [int 0,.sl 1 []],rfl,.refl _ _,.obj 0 [] [] .nil,hids,?_,hw2⟩
     ·rw[hAr,if_neg (by decide),Int.toNat_natCast,hg2]
     ·show (bif Nat.beq 0 k then _ else ou 0)=_
      rw[Q08 (by omega)];exact h0.m0
   ·refine AOps.callP hΓ (Qc8 hΓ hno _) rfl rfl rfl rfl rfl rfl hou ⟨hi1,trivial⟩ (fun ps ou' h ho=>?_) (fun r ou' h _ _=>h.elim)
    obtain⟨rfl,rfl⟩:=h
    exact⟨ho,5,by rw[hAr,Q4r hvn],rfl,hpr⟩
 ·refine AOps.callP hΓ (Qki hΓ hno _) rfl rfl rfl rfl rfl rfl hou ⟨hi0,trivial⟩ (fun ps ou' h ho=>?_) (fun r ou' h _ _=>h.elim)
  obtain⟨rfl,rfl⟩:=h
  exact⟨ho,5,Qfy (fun a=>by rw[hg0];exact hva a),rfl,hpr⟩
end
theorem slot_ok{g:Int}{l:List (List AC)}{n:Nat}{y:AC}(hl:l[n]?=some [y])(hy:y.ids isO):APure Tryz.prog Γ 159 [.one (iB tCap [int g,.sl 1 l]),.one (int n)] (.one y):=by
 have hlt:n < l.length:=(List.getElem?_eq_some_iff.1 hl).1
 intro ou
 refine AFn.walk 32 tabOk Tryz.func159 rfl (by kernel_rfl) rfl rfl fun hou=>?_
 refine zA ?_
 refine zS (AStep.assertYes Q3o rfl rfl) ?_
 refine zM ?_
 refine ACode.cond rfl (fun hb=>absurd hb (by simp;omega)) (fun _=>?_)
 refine zA ?_
 refine zS (zIA rfl rfl rfl (by omega) hl) ?_
 refine zA ?_
 exact APure.fin rfl (WkF.ofEq rfl) hy hou rfl
section
variable {fu:Int}{fc:FcT}{fns:List Fun}{ou:Outer}{H:Hm}{nm:Nm2}{m m1:Ms}{v:Vl}{tc ec vc kc:AC}{t:Tr}{e:En}{d:List Vl}{k:List Fm}{dc:List (List AC)}{tc0 ec0 vc0 kc0:AC}
theorem Qke(hΓ:∀g cs,(g,cs)∈Γ->idsL isO cs)(h0:M0 fu fc ou H nm m tc0 ec0 vc0 kc0)(hfc:fc.ids isO)(he:ER H nm e ec){g:Int}{sl:List Vl}{c:AC}(hd:VR H nm (.cap g sl) c)(hk:KR H nm k kc)(hkl:t.kids.length=1)(h16:t.op=16){n:Nat}(hn:t.n=(n:Int))(hv:sl[n]?=some v):
  AFn Tryz.prog Γ 118 [.one (.ptr (.o 0) 0),.one (.box [.box (cTr t),ec,.sl 1 [[c]],kc])] ou (StQ fu fc H nm (.ok { m with c:=.rt v,k:=k })):=by
 have hN:=Q37 h0 hk hfc
 have hei:=he.ids
 have hdi:=hd.ids
 have hki:=hk.ids
 have hw:=hN.w
 have hoX:=h0.ouX
 rw[hoX]
 generalize hmc:ou=ou0 at hN hw
 clear hoX
 obtain⟨g',sl',l,e1,rfl,hsl⟩:∃g' sl' l,Vl.cap g sl=.cap g' sl'/\c=iB tCap [int g',.sl 1 l]/\VsR H nm sl' l:=by
  rcases hd.isCap with ⟨n,fs,cs,h1,h2,h3⟩|⟨h1,_⟩
  ·exact⟨n,fs,cs,h1,h2,h3⟩
  ·exact absurd rfl (h1 g sl)
 cases e1
 obtain⟨y,hy,hvy⟩:=hsl.get hv
 have hyi:=hvy.ids
 have hll:=hsl.len
 obtain⟨o,tn,b,ks,al⟩:=t
 simp only[Tr.op,Tr.n,Tr.kids]at h16 hn hkl
 subst h16;subst hn
 have hop:opdN (.mk 16 (n:Int) b ks al)=1:=by show ks.length=1;exact hkl
 have hs:=slot_ok (Γ:=Γ) (g:=g) hy hyi
 refine AFn.walk 262 tabOk Tryz.func118 rfl (by kernel_rfl) rfl rfl fun hou=>?_
 refine zA ?_
 refine ACode.drawX tabOk 10 [(9,.one (int (opdN (.mk 16 (n:Int) b ks al))))] follows (by kernel_rfl) rfl rfl rfl rfl ?_ ?_
 ·exact⟨⟨_,rfl,AStep.callPure hΓ rfl rfl rfl (by simp[idsF]) hou (Q2d _)⟩,trivial⟩
 refine zA ?_
 refine ACode.cond rfl (fun hb=>absurd hb (by simp[hop])) (fun hb=>?_)
 refine zA ?_
 refine ACode.stEq (σ':=⟨0,[],ouX (mC tc0 ec0 vc0 kc m.out m.steps fu fc) m.out.length ou0⟩) (setX _ _ _ _) ?_
 refine zA ?_
 refine ACode.drawCS tabOk 19 15 16 17 18 (.one (.ptr (.o 0) 0)) (.one (.ptr (.o 0) 0)) [(6,.one (.box [iB tCap [int g,.sl 1 l]]))]
  (fun r σ=>r=.one y/\σ=⟨0,[],ouX (mC tc0 ec0 vc0 kc m.out m.steps fu fc) m.out.length ou0⟩)
  (fun r σ=>r=.one y/\σ=⟨0,[],ouX (mC nilPE ec0 vc0 kc m.out m.steps fu fc) m.out.length ou0⟩)
  follows (by kernel_rfl) rfl rfl (by decide) (by kernel_rfl) (by kernel_rfl) rfl rfl rfl rfl rfl rfl rfl ?_ ?_ ?_ ?_ ?_ ?_ ?_ ?_ ?_ ?_
 ·rintro r σ ⟨rfl,rfl⟩;rfl
 ·rintro r σ ⟨rfl,rfl⟩;rfl
 ·exact⟨⟨_,rfl,zIA rfl rfl rfl (by decide) rfl⟩,trivial⟩
 ·rintro r σ ⟨rfl,rfl⟩
  exact⟨⟨_,rfl,zIA rfl rfl rfl (by decide) rfl⟩,trivial⟩
 ·rintro r σ ⟨rfl,rfl⟩
  exact⟨⟨_,rfl,zIA rfl rfl rfl (by decide) rfl⟩,trivial⟩
 ·refine Q0x.ofR (Q0y.call hΓ rfl rfl rfl rfl ⟨hdi,trivial,trivial⟩ hw.ok (hs _) fun r ou' hq hr ho=>?_)
  obtain⟨rfl,rfl⟩:=hq
  exact⟨rfl,rfl⟩
 ·rintro r σ ⟨rfl,rfl⟩;exact AStep.ofOp tabOk rfl
 ·rintro r σ ⟨rfl,rfl⟩;exact AStep.ofOp tabOk rfl
 ·rintro r σ ⟨rfl,rfl⟩;exact⟨_,⟨rfl,setX _ _ _ _⟩,AStep.ofStore tabOk rfl⟩
 ·rintro r σ ⟨rfl,rfl⟩
  refine zA ?_
  exact StQ.fin rfl rfl (.refl _ _) (MR.ofRt hw hvy hk h0.ids.2.1 hfc rfl rfl (fun _=>rfl))
theorem Qkf(hΓ:∀g cs,(g,cs)∈Γ->idsL isO cs)(h0:M0 fu fc ou H nm m tc0 ec0 vc0 kc0)(hfc:fc.ids isO)(he:ER H nm e ec)(hd:VsR H nm d dc)(hk:KR H nm k kc)(hl:d.length=t.kids.length)(h15:t.op=15):
  AFn Tryz.prog Γ 118 [.one (.ptr (.o 0) 0),.one (.box [.box (cTr t),ec,.sl 1 dc,kc])] ou (StQ fu fc H nm (.ok { m with c:=.rt (.cap t.n d),k:=k })):=by
 have hN:=Q37 h0 hk hfc
 have hei:=he.ids
 have hdi:=hd.ids
 have hki:=hk.ids
 have hdl:=hd.len
 have hw:=hN.w
 have hoX:=h0.ouX
 rw[hoX]
 generalize hmc:ou=ou0 at hN hw
 clear hoX
 obtain⟨o,n,b,ks,al⟩:=t
 simp only[Tr.op,Tr.kids]at h15 hl
 subst h15
 have hop:opdN (.mk 15 n b ks al)=ks.length:=rfl
 refine AFn.walk 262 tabOk Tryz.func118 rfl (by kernel_rfl) rfl rfl fun hou=>?_
 refine zA ?_
 refine ACode.drawX tabOk 10 [(9,.one (int (opdN (.mk 15 n b ks al))))] follows (by kernel_rfl) rfl rfl rfl rfl ?_ ?_
 ·exact⟨⟨_,rfl,AStep.callPure hΓ rfl rfl rfl (by simp[idsF]) hou (Q2d _)⟩,trivial⟩
 refine zA ?_
 refine ACode.cond rfl (fun hb=>absurd hb (by simp[hop,hdl,hl])) (fun hb=>?_)
 refine zA ?_
 refine ACode.stEq (σ':=⟨0,[],ouX (mC tc0 ec0 vc0 kc m.out m.steps fu fc) m.out.length ou0⟩) (setX _ _ _ _) ?_
 refine zA ?_
 refine ACode.drawSt tabOk 19 18 [(14,.one (.box [int n,.sl 1 dc])),(15,.one (iB tCap [int n,.sl 1 dc]))] _ follows (by kernel_rfl) rfl rfl (by kernel_rfl) rfl ?_ rfl rfl rfl rfl ?_ ?_ (AStep.ofStore tabOk rfl) ?_
 ·rfl
 ·exact⟨⟨_,rfl,AStep.boxI rfl rfl⟩,⟨_,rfl,AStep.mkIfc Q3o rfl rfl⟩,trivial⟩
 ·exact⟨⟨_,rfl,AStep.boxI rfl rfl⟩,⟨_,rfl,AStep.mkIfc Q3o rfl rfl⟩,trivial⟩
 refine zA ?_
 exact StQ.fin rfl rfl (.refl _ _) (MR.ofRt hw (.cap n d dc hd) hk h0.ids.2.1 hfc rfl rfl (fun _=>rfl))
end
abbrev VA:={c:AC // c.ids isO}
def cV (v:VA):List AC:=[v.1]
theorem Qi6{p:Abs.Id->Prop}(hp:∀i,isO i->p i)(l:List VA):idsS p (l.map cV):=Q1u (f:=cV) (fun v=>⟨AC.ids_mono hp v.1 v.2,trivial⟩) l
theorem Q2s(k:Nat):∀i,isO i->inL k i:=fun i hi=>by cases i with|l k=>exact hi.elim|o k=>trivial
@[simp] theorem ids_cV_l (k:Nat) (l:List VA):idsS (inL k) (l.map cV):=Qi6 (Q2s k) _
@[simp] theorem Qkl (l:List VA):idsS isO (l.map cV):=Qi6 (fun _ h=>h) _
def GrwQV (ou:Outer)(r:FV)(ou':Outer):Prop:=
 (r=.one (.lit (.slice none 0 0))/\ou'=ou)∨∃k cap,ou k=none/\r=.one (.arr (.o k) 1 0 0 cap)/\ou'=updO ou k (.cells (vec 1 [] cap))
theorem Qj0(n:Nat)(hn:n<=1048576)(ou:Outer):AFn Tryz.prog Γ 186 [.one (.lit (.slice none 0 0)),.one (int n)] ou (GrwQV ou):=by
 refine AFn.walk 27 tabOk Tryz.func186 rfl (by kernel_rfl) rfl rfl fun hou=>?_
 refine zA ?_
 refine zS (AStep.capNil tabOk rfl rfl rfl rfl) ?_
 refine zM ?_
 refine ACode.cond rfl (fun hb=>?_) (fun hb=>?_)
 ·have hn0:0 < n:=by simp at hb;omega
  refine zA ?_
  refine zS (AStep.capNil tabOk rfl rfl rfl rfl) ?_
  refine zA ?_
  refine zS (AStep.sliceNilTo tabOk rfl rfl rfl rfl rfl rfl) ?_
  refine zA ?_
  refine AOps.wk 21 rfl (y:=.one (int n)) (.ofEq (by simp)) ?_
  refine AOps.stepR rfl rfl rfl (Q0y.appZeros0 (m:=n) (s:=1) tabOk rfl rfl rfl rfl rfl Tryz.underlying3 rfl rfl hn0 (by show _ * 16<=_;omega) (by omega)) ?_
  rintro v σ' ⟨cap,hcap,rfl,rfl⟩
  refine zA ?_
  refine zS (AStep.sliceOwn (a:=0) (b:=0) (c:=cap) tabOk rfl rfl rfl rfl rfl rfl rfl ⟨.i64,rfl⟩ rfl (fun h=>by cases h) (by omega) (by omega) (by omega)) ?_
  rw[show (AC.arr (.l 0) 1 (if cap=0 then 0 else 0) (0 - 0) (cap - 0))=.arr (.l 0) 1 0 0 cap by simp]
  refine AOps.cede 0 (show 0 < 1 by omega) fun k hk=>⟨[(25,.one (.arr (.o k) 1 0 0 cap))],⟨1,[],updO ou k (.cells (vec 1 [] cap))⟩,⟨CedFr.get (.cons rfl rfl .nil),rfl,fun i x hx=>?_⟩,?_⟩
  ·have hk:ou k=none:=hk
   cases i with
   |l m=>cases hx
   |o m=>
    have hx':updO ou k (.cells (vec 1 [] cap)) m=some x:=hx
    by_cases e:k=m
    ·subst e;rw[Q03]at hx';cases hx'
     exact⟨.l 0,_,rfl,rfl,(AObj.sub_o _ (Q09 _ (by simp))).symm⟩
    ·rw[Q06 _ e]at hx'
     exact⟨.o m,x,hx',rfl,(AObj.sub_o x (hou m x hx')).symm⟩
  refine zA ?_
  exact AFn.fin' rfl (.refl _) (by simp) (Q0o hou (Q09 _ (by simp))) (.inr ⟨k,cap,hk,rfl,rfl⟩)
 ·refine zA ?_
  exact AFn.fin' rfl (.refl _) (by simp) hou (.inl ⟨rfl,rfl⟩)
def cLV (l:List VA):List AC:=[.sl 1 (l.map cV)]
theorem Qi7{p:Abs.Id->Prop}(hp:∀i,isO i->p i)(ll:List (List VA)):idsS p (ll.map cLV):=Q1u (f:=cLV) (fun l=>⟨Qi6 hp l,trivial⟩) ll
@[simp] theorem ids_cL_lV (k:Nat) (ll:List (List VA)):idsS (inL k) (ll.map cLV):=Qi7 (Q2s k) ll
@[simp] theorem ids_cL_oV (ll:List (List VA)):idsS isO (ll.map cLV):=Qi7 (fun _ h=>h) ll
def catV (ll:List (List VA))(i:Nat):List VA:=(ll.take i).flatten
theorem Qbt{ll:List (List VA)}{i:Nat}{l:List VA}(h:ll[i]?=some l):catV ll (i+1)=catV ll i++l:=by unfold catV;rw[Q1m h];simp
theorem Qbu(ll:List (List VA)):catV ll ll.length=ll.flatten:=by unfold catV;rw[List.take_length]
theorem cat_leV(ll:List (List VA))(j:Nat):(catV ll j).length<=ll.flatten.length:=by
 have:=congrArg (fun z=>z.flatten.length) (List.take_append_drop j ll)
 simp only[List.flatten_append,List.length_append]at this
 unfold catV;omega
theorem Qg3(hΓ:∀g cs,(g,cs)∈Γ->idsL isO cs)(ll:List (List VA))(hl:ll.length<=1048576)(hs:ll.flatten.length<=1048576):
  APure Tryz.prog Γ 177 [.one (.sl 1 (ll.map cLV))] (.one (.sl 1 (ll.flatten.map cV))):=by
 intro ou
 have hpre:=cat_leV ll
 refine AFn.walk 36 tabOk Tryz.func177 rfl (by kernel_rfl) rfl rfl fun hou=>?_
 refine zA ?_
 refine ACode.loopR hΓ (α:=Nat) (fun j=>[(11,.one (int j)),(10,.one (int (ll.map cLV).length)),(9,.one (.sl 1 (ll.map cLV))),(3,.one (int (catV ll j).length)),(0,.one (.sl 1 (ll.map cLV)))])
  (fun j=>⟨0,[],ou⟩) (fun m j=>j<=ll.length/\m=ll.length - j) (a0:=0) (ρ:=id) ⟨by omega,rfl⟩ (LessR.of rfl zFS (by simp) zLO rfl rfl hou) fun m j hj=>?_
 obtain⟨hjl,rfl⟩:=hj
 refine zA ?_
 refine ACode.cond rfl (fun hb=>?_) (fun hb=>?_)
 ·have hlt:j < ll.length:=by simpa using hb
  clear hb
  obtain⟨l,hx⟩:=Q01 hlt
  have hsn:(catV ll (j+1))=(catV ll j)++l:=Qbt hx
  have hle:=hpre (j+1)
  rw[hsn,List.length_append]at hle
  refine zA ?_
  refine zS (zIA rfl rfl rfl (by omega) (Q0a hx)) ?_
  refine zM ?_
  exact cInv ⟨ll.length - (j+1),j+1,id,by omega,⟨by omega,rfl⟩,LessR.of rfl (FrSub.cons rfl (.ofEq rfl) (FrSub.cons rfl (.ofEq rfl) (FrSub.consP rfl (.ofEq rfl) (by simp) (FrSub.cons rfl (.ofEq (by simp[hsn,FV.ren,AC.ren])) (FrSub.consP rfl (.ofEq rfl) (by simp) .nil))))) (by simp) zLO rfl rfl hou⟩
 ·have hlt:j=ll.length:=by simp at hb;omega
  subst hlt
  rw[Qbu]
  refine zA ?_
  refine AOps.cutN 0 rfl hΓ (α:=Option Nat) (fun oc=>[(6,.one (oaC 0 1 [] oc)),(0,.one (.sl 1 (ll.map cLV)))]) (fun oc=>⟨1,[(0,oaO 1 [] oc)],ou⟩) (fun oc=>coO ([]:List (List AC)) oc) ?_ fun oc hoc=>?_
  ·dsimp only [List.take_zero,List.nil_append]
   refine AOps.call1 hΓ rfl rfl rfl rfl rfl rfl rfl (by exact⟨trivial,trivial,trivial⟩) hou (Qj0 ll.flatten.length hs ou) fun r ou' hq _ hov=>?_
   rcases hq with ⟨rfl,rfl⟩|⟨k,cap,hk,rfl,rfl⟩
   ·refine AOps.ghost ?_
    refine zA ?_
    exact cInv ⟨none,id,rfl,LessR.of rfl zFS (by simp) zLO rfl rfl hou⟩
   ·refine AOps.adopt hk (Q09 _ (by simp)) ?_
    refine AOps.wk 24 rfl (y:=.one (oaC 0 1 [] (some cap))) (.ofEq (by simp[FV.sub,AC.sub,toL,oaC])) ?_
    refine zA ?_
    exact cInv ⟨some cap,id,by simp[coO],LessR.of rfl zFS (by simp) (LoSub.cons rfl (show AObj.cells (vec 1 [] cap)=AObj.ren id (oaO 1 [] (some cap))from (Qgw id 1 [] (some cap) fun _=>Qcm (by simp)).symm) rfl (Qcn (by simp)) .nil) rfl rfl hou⟩
  refine zA ?_
  refine ACode.loopR hΓ (α:=Nat×Option Nat) (fun c=>[(27,.one (int c.1)),(26,.one (int (ll.map cLV).length)),(25,.one (.sl 1 (ll.map cLV))),(6,.one (oaC 0 1 ((catV ll c.1).map cV) c.2))])
   (fun c=>⟨1,[(0,oaO 1 ((catV ll c.1).map cV) c.2)],ou⟩) (fun m c=>c.1<=ll.length/\coO ((catV ll c.1).map cV) c.2/\m=ll.length - c.1) (a0:=(0,oc)) (ρ:=id) ⟨by omega,hoc,rfl⟩ (LessR.of rfl ?_ (by simp) zLO rfl rfl hou) fun m c hc=>?_
  ·(repeat' first|exact FrSub.nil|refine zfc ?_|refine zfo ?_|refine zfp ?_)
  obtain⟨i,oc⟩:=c
  obtain⟨hil,hco,rfl⟩:=hc
  dsimp only at hil hco
  refine zA ?_
  refine ACode.cond rfl (fun hb2=>?_) (fun hb2=>?_)
  ·have hlt:i < ll.length:=by simpa using hb2
   clear hb2
   obtain⟨l,hx⟩:=Q01 hlt
   have hsn:(catV ll (i+1))=(catV ll i)++l:=Qbt hx
   have hle:=hpre (i+1)
   rw[hsn,List.length_append]at hle
   refine zA ?_
   refine zS (zIA rfl rfl rfl (by omega) (Q0a hx)) ?_
   refine zA ?_
   by_cases hxe:l=[]
   ·subst hxe
    rw[List.append_nil]at hsn
    refine AOps.appG0 (k:=0) (s:=1) (es:=(catV ll i).map cV) (oc:=oc) tabOk rfl rfl rfl rfl rfl rfl rfl rfl rfl ?_
    refine zM ?_
    exact cInv ⟨ll.length - (i+1),(i+1,oc),id,by omega,⟨by omega,by dsimp only;rw[hsn];exact hco,rfl⟩,LessR.of rfl (by dsimp only;rw[hsn];(repeat' first|exact FrSub.nil|refine zfc ?_|refine zfo ?_|refine zfp ?_)) (by simp) (by dsimp only;rw[hsn];repeat' first|exact LoSub.nil|refine zlc ?_|refine zld ?_ ?_|rfl) rfl rfl hou⟩
   ·refine AOps.appG (k:=0) (s:=1) (es:=(catV ll i).map cV) (oc:=oc) (news:=l.map cV) tabOk rfl rfl rfl rfl rfl rfl rfl rfl rfl rfl hco (fun y hy=>by obtain⟨z,_,rfl⟩:=List.mem_map.1 hy;rfl) (.sl 1 _) (by simpa using hxe) rfl (by simp only[List.length_map];show (_+_) * 16<=_;omega) (by simp only[List.length_map];omega) fun cap hc=>?_
    rw[←List.map_append,←hsn]at hc ⊢
    refine zM ?_
    exact cInv ⟨ll.length - (i+1),(i+1,some cap),fun _=>1,by omega,⟨by omega,hc,rfl⟩,LessR.of rfl zFS (by simp) zLO rfl rfl hou⟩
  ·have hlt:i=ll.length:=by simp at hb2;omega
   subst hlt
   have hfu:=Qbu ll
   repeat ((fail_if_success ((with_reducible refine oj ?_);refine AOps.atDst 35 rfl ?_));first|refine zO ?_)
   refine AOps.freezeG 0 6 rfl hco (fun y hy=>by obtain⟨z,_,rfl⟩:=List.mem_map.1 hy;rfl) rfl ?_
   refine zA ?_
   exact APure.fin rfl (WkF.ofEq (by rw[hfu])) (by rw[←hfu];simp) hou rfl
def cFun (f:Fun):List AC:=[.sl 1 (f.params.map cI),.box (cTr f.body)]
theorem Qek(p:Abs.Id->Prop)(l:List Fun):idsS p (l.map cFun):=Q1u (f:=cFun) (fun f=>by simp[cFun]) l
@[simp] theorem ids_cFun_l (k:Nat) (l:List Fun):idsS (inL k) (l.map cFun):=Qek _ l
@[simp] theorem ids_cFun_o (l:List Fun):idsS isO (l.map cFun):=Qek _ l
section
variable {fu:Int}{kt:Nat}{fns:List Fun}{ou:Outer}{H:Hm}{nm:Nm2}{m:Ms}{v:Vl}{tc ec vc kc:AC}{t:Tr}{e:En}{d:List Vl}{k:List Fm}{dc:List (List AC)}{tc0 ec0 vc0 kc0:AC}
theorem kid_fn(hΓ:∀g cs,(g,cs)∈Γ->idsL isO cs)(h0:M0 fu ⟨.sl 2 (fns.map cFun),kt⟩ ou H nm m tc0 ec0 vc0 kc0)(he:ER H nm e ec)(hd:VsR H nm d dc)(hk:KR H nm k kc)(hl:d.length=t.kids.length)(h14:t.op=14){i:Nat}(hn:t.n=(i:Int)){f:Fun}(hf:fns[i]?=some f)(hpl:f.params.length=d.length)(h20:f.params.length<=1048576):
  AFn Tryz.prog Γ 118 [.one (.ptr (.o 0) 0),.one (.box [.box (cTr t),ec,.sl 1 dc,kc])] ou (StQ fu ⟨.sl 2 (fns.map cFun),kt⟩ H nm (.ok { m with c:=.ev f.body (allE .nil f.params d),k:=k })):=by
 have hfc:(FcT.mk (.sl 2 (fns.map cFun)) kt).ids isO:=by show idsS isO _;simp
 have hN:=Q37 h0 hk hfc
 have hei:=he.ids
 have hdi:=hd.ids
 have hki:=hk.ids
 have hdl:=hd.len
 have hw:=hN.w
 have hoX:=h0.ouX
 rw[hoX]
 generalize hmc:ou=ou0 at hN hw
 clear hoX
 obtain⟨o,n,b,ks,al⟩:=t
 simp only[Tr.op,Tr.n,Tr.kids]at h14 hn hl
 subst h14;subst hn
 have hop:opdN (.mk 14 (i:Int) b ks al)=ks.length:=rfl
 have hsc:(fns.map cFun)[i]?=some (cFun f):=by rw[List.getElem?_map,hf];rfl
 refine AFn.walk 262 tabOk Tryz.func118 rfl (by kernel_rfl) rfl rfl fun hou=>?_
 refine zA ?_
 refine ACode.drawX tabOk 10 [(9,.one (int (opdN (.mk 14 (i:Int) b ks al))))] follows (by kernel_rfl) rfl rfl rfl rfl ?_ ?_
 ·exact⟨⟨_,rfl,AStep.callPure hΓ rfl rfl rfl (by simp[idsF]) hou (Q2d _)⟩,trivial⟩
 refine zA ?_
 refine ACode.cond rfl (fun hb=>absurd hb (by simp[hop,hdl,hl])) (fun hb=>?_)
 refine zA ?_
 refine ACode.stEq (σ':=⟨0,[],ouX (mC tc0 ec0 vc0 kc m.out m.steps fu ⟨.sl 2 (fns.map cFun),kt⟩) m.out.length ou0⟩) (setX _ _ _ _) ?_
 refine zA ?_
 refine ACode.drawXA tabOk 14 13 [(11,.one (.box (cFun f)))] follows (by kernel_rfl) rfl rfl rfl rfl rfl rfl rfl rfl rfl ?_ ?_ ?_
 ·exact⟨⟨_,rfl,zIA rfl rfl rfl (by show (0:Int)<=(i:Int);omega) (by simpa using hsc)⟩,trivial⟩
 ·exact⟨⟨_,rfl,zIA rfl rfl rfl (by show (0:Int)<=(i:Int);omega) (by simpa using hsc)⟩,trivial⟩
 refine zA ?_
 refine ACode.drawCS tabOk 14 10 11 12 13 (.one (.ptr (.o 0) 0)) (.one (.ptr (.o 0) 0)) []
  (GrS (mC tc0 ec0 vc0 kc m.out m.steps fu ⟨.sl 2 (fns.map cFun),kt⟩) m.out.length ou0 H (mC tc0 ec0 vc0 kc m.out m.steps fu ⟨.sl 2 (fns.map cFun),kt⟩) (1,[(0,.cells (cFun f)),(0,.cells (List.map AC.lit ti204.zero))]) fun v H1=>∃c,v=.one c/\ER H1 nm (allE .nil f.params d) c)
  (GrS (mC tc0 ec0 vc0 kc m.out m.steps fu ⟨.sl 2 (fns.map cFun),kt⟩) m.out.length ou0 H (mC (.box (cTr f.body)) ec0 vc0 kc m.out m.steps fu ⟨.sl 2 (fns.map cFun),kt⟩) (1,[(0,.cells (cFun f)),(0,.cells (List.map AC.lit ti204.zero))]) fun v H1=>∃c,v=.one c/\ER H1 nm (allE .nil f.params d) c)
  follows (by kernel_rfl) rfl rfl (by decide) (by kernel_rfl) (by kernel_rfl) rfl rfl rfl rfl rfl rfl rfl ?_ ?_ trivial (fun _ _ _=>trivial) (fun _ _ _=>trivial) ?_ ?_ ?_ ?_ ?_
 ·rintro v σ ⟨ou1,H1,rfl,_,_⟩;rfl
 ·rintro v σ ⟨ou1,H1,rfl,_,_⟩;rfl
 ·refine Q0x.ofR (Q0y.call hΓ rfl rfl rfl rfl ⟨trivial,by simp,hdi,trivial⟩ hw.ok (Qc1 hΓ (.nil (H:=H) (nm:=nm)) hd hpl h20 _ hw.inO) fun r ou' hq hr ho=>?_)
  obtain⟨H1,c1,rfl,hg,hec⟩:=hq
  exact GrS.of hg ⟨c1,rfl,hec⟩
 ·rintro v σ ⟨ou1,H1,rfl,_,_,rfl,_⟩;exact AStep.ofOp tabOk rfl
 ·rintro v σ ⟨ou1,H1,rfl,_,_,rfl,_⟩;exact AStep.ofOp tabOk rfl
 ·rintro v σ ⟨ou1,H1,rfl,h1,h2⟩;exact⟨_,⟨ou1,H1,setXs _ _ _ _ _ _,h1,h2⟩,AStep.ofStore tabOk rfl⟩
 ·rintro v' σ ⟨ou1,H1,rfl,h1,c1,rfl,h3⟩
  refine zA ?_
  have hw2:=hw.gro h1 (by simp[ouX]) (by simp[ouX])
  have hM:MR fu ⟨.sl 2 (fns.map cFun),kt⟩ _ H1 nm { m with c:=.ev f.body (allE .nil f.params d),k:=k }:=MR.ofEv (ou':=(St.set ⟨0,[],ouX (mC (.box (cTr f.body)) ec0 vc0 kc m.out m.steps fu ⟨.sl 2 (fns.map cFun),kt⟩) m.out.length ou1⟩ (.o 0) (.cells (mC (.box (cTr f.body)) c1 vc0 kc m.out m.steps fu ⟨.sl 2 (fns.map cFun),kt⟩))).ou) hw2 h3 (hk.mo (h1.mo nm)) h0.ids.2.2.1 hfc rfl rfl (fun _=>rfl)
  refine AFn.fin' rfl (WkF.refl _) (by simp) hM.ok ⟨rfl,H1,nm,_,?_,h1.mo nm,hM⟩
  rfl
end
section
variable {fu:Int}{kt:Nat}{fns:List Fun}{ou:Outer}{H:Hm}{nm:Nm2}{m:Ms}{k:List Fm}{kc tc0 ec0 vc0:AC}
theorem VsR.va:∀{l:List Vl}{cs:List (List AC)},VsR H nm l cs->∃lv:List VA,cs=lv.map cV
 |_,_,.nil=>⟨[],rfl⟩
 |_,_,.cons v c vs cs hv h=>by
  obtain⟨lv,rfl⟩:=VsR.va h
  exact⟨⟨c,hv.ids⟩::lv,rfl⟩
theorem Qkv(hΓ:∀g cs,(g,cs)∈Γ->idsL isO cs)(h0:M0 fu ⟨.sl 2 (fns.map cFun),kt⟩ ou H nm m tc0 ec0 vc0 kc)(hk:KR H nm k kc){n:Nat}{sl:List Vl}{c:AC}(hv:VR H nm (.cap (n:Int) sl) c){f:Fun}(hf:fns[n]?=some f){l:List Vl}{cs:List (List AC)}(hl:VsR H nm l cs)(hpl:f.params.length=l.length+1)(h20:f.params.length<=1048576):
  AFn Tryz.prog Γ 156 [.one (.ptr (.o 0) 0),.one c,.one (.sl 1 cs)] ou (StQ fu ⟨.sl 2 (fns.map cFun),kt⟩ H nm (.ok { m with c:=.ev f.body (allE .nil f.params (.cap (n:Int) sl::l)),k:=k })):=by
 have hfc:(FcT.mk (.sl 2 (fns.map cFun)) kt).ids isO:=by show idsS isO _;simp
 have hoX:=h0.ouX
 have hki:=hk.ids
 have hvi:=hv.ids
 have hli:=hl.ids
 have hll:=hl.len
 rw[hoX]
 have hw:=h0.w
 rw[hoX]at hw
 generalize hmc:ou=ou0 at hw
 clear hoX
 have hvl:=VsR.cons (H:=H) (nm:=nm) _ _ _ _ hv hl
 obtain⟨lv,rfl⟩:=hl.va
 obtain⟨scs,rfl⟩:∃scs,c=iB tCap [int n,.sl 1 scs]:=by
  rcases hv.isCap with ⟨g,fs,cs,h1,h2,h3⟩|⟨h1,_⟩
  ·cases h1;exact⟨cs,h2⟩
  ·exact absurd rfl (h1 _ sl)
 have n1:notT tClo (iB tCap [int n,.sl 1 scs]):=.inr ⟨_,_,_,rfl,rfl⟩
 have hsc:(fns.map cFun)[n]?=some (cFun f):=by rw[List.getElem?_map,hf];rfl
 have hcat:=Qg3 (Γ:=Γ) hΓ [[⟨iB tCap [int n,.sl 1 scs],hvi⟩],lv] (by simp) (by simp;simp at hll;omega)
 refine AFn.walk 137 tabOk Tryz.func156 rfl (by kernel_rfl) rfl rfl fun hou=>?_
 refine zA ?_
 refine zS (AStep.assertNo Q40 rfl zClo rfl rfl n1) ?_
 refine zA ?_
 refine zS (AStep.assertYes Q3o rfl rfl) ?_
 refine zA ?_
 refine ACode.drawXA tabOk 11 10 [(8,.one (.box (cFun f)))] follows (by kernel_rfl) rfl rfl rfl rfl rfl rfl rfl rfl rfl ?_ ?_ ?_
 ·exact⟨⟨_,rfl,zIA rfl rfl rfl (by show (0:Int)<=(n:Int);omega) (by simpa using hsc)⟩,trivial⟩
 ·exact⟨⟨_,rfl,zIA rfl rfl rfl (by show (0:Int)<=(n:Int);omega) (by simpa using hsc)⟩,trivial⟩
 refine zM ?_
 refine ACode.cond rfl (fun _=>?_) (fun hb=>absurd hb (by simp at hll;simp;omega))
 refine zA ?_
 refine ACode.stEq (σ':=⟨2,[(1,.cells (cFun f)),(1,.cells (List.map AC.lit ti204.zero)),(0,.cells [.ptr (.o 0) 0])],ouX (mC tc0 ec0 vc0 kc m.out m.steps fu ⟨.sl 2 (fns.map cFun),kt⟩) m.out.length ou0⟩) rfl ?_
 refine ACode.drawC2 tabOk 16 [11,12,13,14,15] [(7,.one (iB tCap [int n,.sl 1 scs])),(8,.one (.sl 1 [[iB tCap [int n,.sl 1 scs]]])),(10,.one (.sl 1 [[.sl 1 [[iB tCap [int n,.sl 1 scs]]]],[.sl 1 (lv.map cV)]]))] (fun vs σ=>match vs with
  |[]=>σ=⟨2,[(1,.cells (cFun f)),(1,.cells (List.map AC.lit ti204.zero)),(0,.cells [.ptr (.o 0) 0])],ouX (mC tc0 ec0 vc0 kc m.out m.steps fu ⟨.sl 2 (fns.map cFun),kt⟩) m.out.length ou0⟩
  |[x]=>x=.one (.sl 1 ([[⟨iB tCap [int n,.sl 1 scs],hvi⟩],lv].flatten.map cV))/\σ=⟨2,[(1,.cells (cFun f)),(1,.cells (List.map AC.lit ti204.zero)),(0,.cells [.ptr (.o 0) 0])],ouX (mC tc0 ec0 vc0 kc m.out m.steps fu ⟨.sl 2 (fns.map cFun),kt⟩) m.out.length ou0⟩
  |[x,y]=>GrS (mC tc0 ec0 vc0 kc m.out m.steps fu ⟨.sl 2 (fns.map cFun),kt⟩) m.out.length ou0 H (mC tc0 ec0 vc0 kc m.out m.steps fu ⟨.sl 2 (fns.map cFun),kt⟩) (2,[(1,.cells (cFun f)),(1,.cells (List.map AC.lit ti204.zero)),(0,.cells [.ptr (.o 0) 0])]) (fun v H1=>∃c,v=.one c/\ER H1 nm (allE .nil f.params (.cap (n:Int) sl::l)) c) y σ
  |[x,y,a]=>GrS (mC tc0 ec0 vc0 kc m.out m.steps fu ⟨.sl 2 (fns.map cFun),kt⟩) m.out.length ou0 H (mC tc0 ec0 vc0 kc m.out m.steps fu ⟨.sl 2 (fns.map cFun),kt⟩) (2,[(1,.cells (cFun f)),(1,.cells (List.map AC.lit ti204.zero)),(0,.cells [.ptr (.o 0) 0])]) (fun v H1=>∃c,v=.one c/\ER H1 nm (allE .nil f.params (.cap (n:Int) sl::l)) c) y σ/\a=.one (.ptr (.o 0) 0)
  |[x,y,a,b]=>GrS (mC tc0 ec0 vc0 kc m.out m.steps fu ⟨.sl 2 (fns.map cFun),kt⟩) m.out.length ou0 H (mC tc0 ec0 vc0 kc m.out m.steps fu ⟨.sl 2 (fns.map cFun),kt⟩) (2,[(1,.cells (cFun f)),(1,.cells (List.map AC.lit ti204.zero)),(0,.cells [.ptr (.o 0) 0])]) (fun v H1=>∃c,v=.one c/\ER H1 nm (allE .nil f.params (.cap (n:Int) sl::l)) c) y σ/\a=.one (.ptr (.o 0) 0)/\b=.one (.ptr (.o 0) 0)
  |[x,y,a,b,s]=>GrS (mC tc0 ec0 vc0 kc m.out m.steps fu ⟨.sl 2 (fns.map cFun),kt⟩) m.out.length ou0 H (mC (.box (cTr f.body)) ec0 vc0 kc m.out m.steps fu ⟨.sl 2 (fns.map cFun),kt⟩) (2,[(1,.cells (cFun f)),(1,.cells (List.map AC.lit ti204.zero)),(0,.cells [.ptr (.o 0) 0])]) (fun v H1=>∃c,v=.one c/\ER H1 nm (allE .nil f.params (.cap (n:Int) sl::l)) c) y σ/\a=.one (.ptr (.o 0) 0)/\b=.one (.ptr (.o 0) 0)/\s=.bot
  |_=>False) follows (by kernel_rfl) rfl rfl (by decide) (by kernel_rfl) (by kernel_rfl) rfl rfl ?_ ?_ (by decide) ?_ ?_
 ·intro vs σ h
  match vs with
  |[]=>subst h;rfl
  |[_]=>obtain⟨_,rfl⟩:=h;rfl
  |[_,_]=>obtain⟨_,_,rfl,_⟩:=h;rfl
  |[_,_,_]=>obtain⟨⟨_,_,rfl,_⟩,_⟩:=h;rfl
  |[_,_,_,_]=>obtain⟨⟨_,_,rfl,_⟩,_⟩:=h;rfl
  |[_,_,_,_,_]=>obtain⟨⟨_,_,rfl,_⟩,_⟩:=h;rfl
  |_::_::_::_::_::_::_=>exact h.elim
 ·intro vs σ h
  exact⟨⟨_,rfl,HStep.plain rfl (AStep.mkIfc Q3o rfl rfl)⟩,⟨_,rfl,HStep.auto tabOk rfl⟩,⟨_,rfl,HStep.auto tabOk rfl⟩,trivial⟩
 ·intro vs σ h i o hi ho
  match vs with
  |[]=>
   subst h;cases hi;cases ho
   refine⟨rfl,.inl (.inr ⟨rfl,Q0y.call hΓ rfl rfl rfl rfl ⟨by simp[hvi],trivial⟩ hw.ok (hcat _) fun r ou' hq hr ho=>?_⟩)⟩
   obtain⟨rfl,rfl⟩:=hq
   exact⟨rfl,rfl⟩
  |[x]=>
   obtain⟨rfl,rfl⟩:=h;cases hi;cases ho
   refine⟨rfl,.inl (.inr ⟨rfl,Q0y.call hΓ rfl rfl rfl rfl ⟨trivial,by simp,Qkl _,trivial⟩ hw.ok (Qc1 hΓ (.nil (H:=H) (nm:=nm)) (by simpa[cV]using hvl) (by simpa using hpl) h20 _ hw.inO) fun r ou' hq hr ho=>?_⟩)⟩
   obtain⟨H1,c1,rfl,hg,hec⟩:=hq
   exact GrS.of (L:=(2,[(1,.cells (cFun f)),(1,.cells (List.map AC.lit ti204.zero)),(0,.cells [.ptr (.o 0) 0])])) hg ⟨c1,rfl,hec⟩
  |[x,y]=>obtain⟨ou1,H1,rfl,h1,h2⟩:=h;cases hi;cases ho;exact⟨rfl,.inl (.inl ⟨_,_,AStep.ofOp tabOk rfl,⟨ou1,H1,rfl,h1,h2⟩,rfl⟩)⟩
  |[x,y,a]=>obtain⟨⟨ou1,H1,rfl,h1,h2⟩,rfl⟩:=h;cases hi;cases ho;exact⟨rfl,.inl (.inl ⟨_,_,AStep.ofOp tabOk rfl,⟨ou1,H1,rfl,h1,h2⟩,rfl,rfl⟩)⟩
  |[x,y,a,b]=>obtain⟨⟨ou1,H1,rfl,h1,h2⟩,rfl,rfl⟩:=h;cases hi;cases ho;exact⟨rfl,.inl (.inl ⟨_,_,AStep.ofStore tabOk rfl,⟨ou1,H1,setXs _ _ _ _ _ _,h1,h2⟩,rfl,rfl,rfl⟩)⟩
  |_::_::_::_::_::_=>cases hi
 ·intro vs σ hlen h
  match vs,hlen with
  |[x,y,a,b,s],_=>
   obtain⟨⟨ou1,H1,rfl,h1,c1,rfl,h3⟩,rfl,rfl,rfl⟩:=h
   refine zA ?_
   have hw2:=hw.gro h1 (by simp[ouX]) (by simp[ouX])
   have hM:MR fu ⟨.sl 2 (fns.map cFun),kt⟩ _ H1 nm { m with c:=.ev f.body (allE .nil f.params (.cap (n:Int) sl::l)),k:=k }:=MR.ofEv (ou':=(St.set ⟨0,[],ouX (mC (.box (cTr f.body)) ec0 vc0 kc m.out m.steps fu ⟨.sl 2 (fns.map cFun),kt⟩) m.out.length ou1⟩ (.o 0) (.cells (mC (.box (cTr f.body)) c1 vc0 kc m.out m.steps fu ⟨.sl 2 (fns.map cFun),kt⟩))).ou) hw2 h3 (hk.mo (h1.mo nm)) h0.ids.2.2.1 hfc rfl rfl (fun _=>rfl)
   refine AFn.fin' rfl (WkF.refl _) (by simp) hM.ok ⟨rfl,H1,nm,_,?_,h1.mo nm,hM⟩
   rfl
end
end Go.Proofs.YtmdkenkhaicbeaaGreatDoor
