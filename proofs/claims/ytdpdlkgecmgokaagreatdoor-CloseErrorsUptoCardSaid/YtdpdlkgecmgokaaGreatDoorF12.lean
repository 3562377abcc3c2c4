/- flat.Run of a program, whatever its machine answers, walked. -/
import Derived.Test.YtdpdlkgecmgokaaGreatDoorF11
import Derived.KernelRfl
set_option maxRecDepth 10000
set_option linter.unusedVariables false
set_option linter.unusedSimpArgs false
namespace Go.Proofs.YtdpdlkgecmgokaaGreatDoor
open Go Go.Abs Go.CoreX
def WholeR (fs:List FnD)(f0:FnD)(fu:Int)(r0:FV):Prop:=AFn Tryz.prog Γc 34 [.one (.ptr (.o 0) 0)] (ouOf [.cells (mC (.box (cTr (grow f0.body))) nilPE (.lit .nilIface) nilPE [] 0 fu ⟨.sl 2 ((funsD fs).map cFun),1⟩),.tok 3 1 0]) (fun r ou'=>r=r0/\ou'=ouOf [.dead,.dead])
theorem Qbv{fu:Int}{fs:List FnD}{main:Nat}{f0:FnD}{out:List (List AC)}{c1 c2 c3 c4:AC}(hok:PrgOk fs main)(hf0:fs[main]?=some f0)(hr0:∀p:Abs.Id->Prop,(FV.tup [.agg [.sl 1 out,c1,c2],.one c3,.one c4]).ids p)(hwh:WholeR fs f0 fu (.tup [.agg [.sl 1 out,c1,c2],.one c3,.one c4])):
  APure Tryz.prog Γc 28 [.agg [.sl 3 (fs.map encF),int (main:Int)],.one (int fu)] (.tup [.agg [.sl 1 out,c1,c2],.one c3,.one c4]):=by
 have hfl:=hok.l
 intro ou
 refine AFn.walk 53 tabOk Tryz.func28 rfl (by kernel_rfl) rfl rfl fun hou=>?_
 refine zA ?_
 refine ACode.grow 2 7 90 2 rfl rfl ?_
 refine ACode.loopR hΓc (α:=Nat) (fun j=>[(16,.one (int j)),(15,.one (int (fs.map encF).length)),(14,.one (.sl 3 (fs.map encF))),(7,.one (.ptr (.l 2) 0)),(4,.one (.ptr (.l 1) 0)),(2,.one (.ptr (.l 0) 0)),(6,.one (int 0)),(5,.one (int 0))])
  (fun j=>⟨4,[(3,.tok 90 2 j),(2,.cells [nilPE,nilPE,.lit .nilIface,nilPE,nilS,int 0,int fu,.gs 2 ((funsD (fs.take j)).map cFun) (.l 3)]),(1,.cells [nilS,int 0,int 0]),(0,.cells [.sl 3 (fs.map encF),int (main:Int)])],ou⟩) (fun m j=>j<=fs.length/\m=fs.length - j) (a0:=0) (ρ:=_root_.id) ⟨by omega,rfl⟩
  (LessR.of rfl zFS (by simp) ?_ rfl rfl hou) fun m j hj=>?_
 ·repeat' first|exact LoSub.nil|refine zlc ?_|refine zld ?_ ?_|rfl
  all_goals (simp[AObj.ren,renL,AC.ren];rfl)
 obtain⟨hjl,rfl⟩:=hj
 refine zA ?_
 refine ACode.cond rfl (fun hb2=>?_) (fun hb2=>?_)
 ·have hlt:j < fs.length:=by simpa using hb2
  obtain⟨x,hx⟩:=Q01 hlt
  have hxb:=hok.b x (List.mem_of_getElem? hx)
  have t1:=Q21 hxb.b
  have hgr:=Qbx hΓc x.body hxb.okb.eo t1.k t1.ne
  have hjl2:((funsD (fs.take j)).map cFun).length=j:=by simp[Qfq];omega
  refine zA ?_
  refine zS (zIA rfl rfl rfl (by omega) (Q04 hx)) ?_
  refine zA ?_
  refine ACode.drawXH (va:=.one (.gs 2 ((funsD (fs.take j)).map cFun++[cFun (funD x)]) (.l 5))) (σ1:=((((St.mk 4 [(3,.tok 90 2 j),(2,.cells [nilPE,nilPE,.lit .nilIface,nilPE,nilS,int 0,int fu,.gs 2 ((funsD (fs.take j)).map cFun) (.l 3)]),(1,.cells [nilS,int 0,int 0]),(0,.cells [.sl 3 (fs.map encF),int (main:Int)])] ou).push (.cells (ti42.zero.map .lit))).set (.l 4) (.cells (encF x))).set (.l 3) .dead).push (.tok 90 2 ((funsD (fs.take j)).map cFun++[cFun (funD x)]).length))
   tabOk 13 12 [(9,.one (.box (cTr (grow x.body))))] follows (by kernel_rfl) rfl rfl rfl rfl rfl rfl rfl ?_ ?_ ?_ ?_
  ·refine HStep.plain rfl (AStep.append (s:=2) (es:=(funsD (fs.take j)).map cFun) (news:=[cFun (funD x)]) (ti:=ti73) (σ:=((St.mk 4 [(3,.tok 90 2 j),(2,.cells [nilPE,nilPE,.lit .nilIface,nilPE,nilS,int 0,int fu,.gs 2 ((funsD (fs.take j)).map cFun) (.l 3)]),(1,.cells [nilS,int 0,int 0]),(0,.cells [.sl 3 (fs.map encF),int (main:Int)])] ou).push (.cells (ti42.zero.map .lit))).set (.l 4) (.cells (encF x))) tabOk rfl rfl rfl rfl rfl rfl (Base.gs' _ 90 2 ((funsD (fs.take j)).map cFun) (.l 3) rfl hjl2.symm) (.sl _ _) rfl ?_ ?_)
   ·rw[hjl2];show (j+1) * 32<=_;omega
   ·rw[hjl2];show j+1<=_;omega
  ·exact .call hΓc hgr hou (by simp) rfl rfl rfl rfl rfl rfl .nil
  ·exact .call hΓc hgr hou (by simp) rfl rfl rfl rfl rfl rfl .nil
  refine zM ?_
  refine cInv ⟨fs.length - (j+1),j+1,fun k=>if k=3 then 5 else k,by omega,⟨by omega,rfl⟩,LessR.of rfl zFS (by simp) ?_ rfl rfl hou⟩
  repeat' first|exact LoSub.nil|refine zlc ?_|refine zld ?_ ?_|rfl
  ·simp only[AObj.ren,List.length_append,hjl2];rfl
  ·rw[Qdw hx];simp only[AObj.ren,renL,AC.ren,Qer];rw[List.map_append];rfl
 have hlt:j=fs.length:=by simp at hb2;omega
 subst hlt
 rw[List.take_length]
 refine zA ?_
 refine ACode.wkObj (.l 2) rfl (cs':=[nilPE,nilPE,.lit .nilIface,nilPE,nilS,int 0,int fu,.sl 2 ((funsD fs).map cFun)]) (fun w C xs h=>(show WkL _ _ from .cons (.refl _) (.cons (.refl _) (.cons (.refl _) (.cons (.refl _) (.cons (.refl _) (.cons (.refl _) (.cons (.refl _) (.cons (.gsE rfl) .nil)))))))) w C xs h) ?_
 refine ACode.drawX tabOk 12 [(7,.one (.box (cFun (funD f0))))] follows (by kernel_rfl) rfl rfl rfl rfl ?_ ?_
 ·exact .step rfl (zHP (zIA rfl rfl rfl (Int.natCast_nonneg main) (Qhw hf0))) .nil
 repeat ((fail_if_success ((with_reducible refine oj ?_);refine AOps.atDst 49 rfl ?_));first|refine zO ?_)
 refine AOps.growO 2 4 3 1 rfl rfl ?_
 refine AOps.callR [.l 2,.l 4] [.one (.ptr (.o 0) 0)] [.cells (mC (.box (cTr (grow f0.body))) nilPE (.lit .nilIface) nilPE [] 0 fu ⟨.sl 2 ((funsD fs).map cFun),1⟩),.tok 3 1 0] hΓcF rfl rfl rfl rfl rfl rfl ?_ ?_ ?_ ?_ ?_ hwh ?_
 ·rfl
 ·simp[inO]
 ·simp
 ·refine⟨?_,rfl,trivial⟩
  simp only[AObj.sub,mC,subL,AC.sub,nameOf,List.map_nil,subS]
  rw[Q1r _ _ (by simp),Q6o _ _ (Q6c _ _)]
  rfl
 ·simp[inO,mC]
  exact Q6c _ _
 intro r ou' hq
 obtain⟨rfl,rfl⟩:=hq
 refine⟨[.dead,.dead],rfl,rfl,by simp,hr0 _,?_⟩
 rw[FV.sub_pure _ _ (hr0 _)]
 refine zA ?_
 exact APure.fin rfl (WkF.ofEq rfl) (hr0 _) hou rfl
theorem Qho{fu:Int}{fs:List FnD}{main:Nat}{f0:FnD}{out:List (List AC)}{c1 c2 c3 c4:AC}(hfu:1<=fu/\fu<=1000000)(hok:PrgOk fs main)(hf0:fs[main]?=some f0)(hr0:∀p:Abs.Id->Prop,(FV.tup [.agg [.sl 1 out,c1,c2],.one c3,.one c4]).ids p)(hwh:WholeR fs f0 fu (.tup [.agg [.sl 1 out,c1,c2],.one c3,.one c4])):
  APure Tryz.prog Γc 10 [.agg [.sl 3 (fs.map encF),int (main:Int)],.one (int fu)] (.tup [.agg [.sl 1 out,c1,c2],.one c3,.one c4]):=by
 intro ou
 refine AFn.walk 27 tabOk Tryz.func10 rfl (by kernel_rfl) rfl rfl fun hou=>?_
 refine zA ?_
 refine zca hΓc (Qae fs main hok) hou ?_
 refine zM ?_
 have hf1:decide (fu < 1)=false:=by simp;omega
 refine AOps.wk 16 rfl (y:=.one (.lit (.bool false))) (.ofEq (by show FV.one (.lit (.bool (decide (fu < 1))))=_;rw[hf1])) ?_
 refine zM ?_
 refine ACode.cond rfl (fun hb=>absurd (show 1000000 < fu by simpa using hb) (by omega)) (fun _=>?_)
 refine zM ?_
 refine zca hΓc (Qbv hok hf0 hr0 hwh) hou ?_
 refine zM ?_
 exact APure.fin rfl (WkF.ofEq rfl) (hr0 _) hou rfl
structure PRunsP (fu:Int)(fs:List FnD)(main:Nat)(mf:Ms)(vf:Vl):Prop where
 ok:PrgOk fs main
 fns:FnsP (funsD fs)
 fu0:1<=fu/\fu<=1000000
 go:∃g f,fs[main]?=some f/\goX fu (funsD fs) g ⟨.ev (grow f.body) .nil,[],[],0,[]⟩=some (.done mf vf)
 out:mf.out.length<=1000
 st:mf.steps<=fu
theorem Qhn{fu:Int}{fs:List FnD}{main:Nat}{mf:Ms}{vf:Vl}(h:PRunsP fu fs main mf vf):
  APure Tryz.prog Γc 10 [.agg [.sl 3 (fs.map encF),int (main:Int)],.one (int fu)] (.tup [.agg [.sl 1 (mf.out.map cI),int 0,int (lastV vf)],.one (int mf.steps),.one (int 0)]):=by
 obtain⟨g,f0,hf0,hg⟩:=h.go
 have hac:(AC.sl 2 ((funsD fs).map cFun)).ids isO:=by show idsS isO _;exact Q80 _
 have hM0:=Qi5 (grow f0.body) fu (.sl 2 ((funsD fs).map cFun)) hac
 have hkc:=kidC4 hΓc (fu:=fu) h.fns
 have hsc:=startC4 hΓc (fu:=fu) h.fns
 have hbm:allT (FragP (funsD fs)) (grow f0.body):=h.fns.b _ (List.mem_map.2 ⟨f0,List.mem_of_getElem? hf0,rfl⟩)
 have hgm:gM (G4 (funsD fs)) ⟨.ev (grow f0.body) .nil,[],[],0,[]⟩:=⟨⟨hbm,trivial⟩,trivial,fun r hr=>by cases hr⟩
 have hrun:=run_ok hΓc (ac:=.sl 2 ((funsD fs).map cFun)) hac (G4ok h.fns) (fun t ht=>G4opn ht) hkc hsc hM0 hgm hg (fun hr=>hr.elim) h.out ⟨by have:=h.fu0;omega,h.fu0.2⟩ (by simp) h.st
 have hwh0:=Qgk (ac:=.sl 2 ((funsD fs).map cFun)) (kt0:=1) hΓc hrun
 refine Qho h.fu0 h.ok hf0 (fun p=>by simp) ?_
 refine AFn.forgetD (AFn.mono hwh0 fun r ou' hq=>⟨ouOf [.dead,.dead],fun m o hmo=>?_,hq,rfl⟩)
 match m,hmo with
 |0,hmo=>cases hmo;exact .inr ⟨rfl,_,rfl⟩
 |1,hmo=>cases hmo;exact .inr ⟨rfl,_,rfl⟩
 |m+2,hmo=>simp[ouOf]at hmo
set_option maxRecDepth 100000
theorem Qet{e:List Ex}(he:okB e)(hck:check e=0):FnsW (progC e)/\(progC e).length=1+lamN (grow e):=by
 have hT:=Q9m he hck
 have hcn:=hT.c4
 have hsz:=cv_sz (cntN (grow e)) (grow e) (Nat.le_refl _) hcn hT.fr hT.ok sc0 (bs0 e) (by decide)
 have hmo:=Q55 (cntN (grow e)) (grow e) hT.c hT.fr sc0 (bs0 e)
 have hws:=cv_w (cntN (grow e)) (grow e) hT sc0 (bs0 e) (by decide) (fun f hf=>by
  have:f=⟨-1,[],[]⟩:=by simpa[bs0]using hf
  subst this
  exact⟨by simp,.inl rfl⟩)
 change FnsW (cvR e).2.fns at hws
 change MovB (bs0 e) (cvR e).2 _ at hmo
 change cntN (cvR e).1<=_/\okT (cvR e).1 at hsz
 have hln:(cvR e).2.fns.length=1+lamN (grow e):=hmo.len
 have hpos:0 < (cvR e).2.fns.length:=by omega
 refine⟨?_,by rw[progC,Q4t,hln]⟩
 refine FnsW.put hws 0 ?_ (.inr ⟨_,hsz.2,by omega,rfl⟩)
 rw[List.getD_eq_getElem?_getD,List.getElem?_eq_getElem hpos]
 exact (hws _ (List.getElem_mem hpos)).1
def callB (fs:List FnD)(x:Ex):Bool:=!(x.op==14||x.op==15)||(decide (0<=x.n)&&match fs[x.n.toNat]? with
 |some g=>(!(x.op==14)||x.kids.length==g.params.length)&&(!(x.op==15)||!(g.params.length==0))
 |none=>false)
theorem Qhv{fs:List FnD}{x:Ex}(h:callB fs x=true):Qbq fs x:=fun ho=>by
 unfold callB at h
 have h0:(x.op==14||x.op==15)=true:=by rcases ho with h|h <;> simp[h]
 rw[h0]at h
 simp only[Bool.not_true,Bool.false_or,Bool.and_eq_true,decide_eq_true_eq]at h
 obtain⟨h1,h2⟩:=h
 split at h2
 ·rename_i g hg
  simp only[Bool.and_eq_true,Bool.or_eq_true,Bool.not_eq_true',beq_eq_false_iff_ne,beq_iff_eq]at h2
  exact⟨x.n.toNat,g,by omega,hg,fun h=>h2.1.resolve_left (by simp[h]),fun h=>h2.2.resolve_left (by simp[h])⟩
 ·cases h2
def fnB (fs:List FnD)(f:FnD):Bool:=(decide (-1<=f.name)&&decide (f.name < 1048576))&&decide (f.params.length<=6)&&f.params.all (fun x=>decide (0<=x)&&decide (x < 1048576))&&decide (f.body.length<=4096)&&body f.body f.params true==0&&f.body.all (callB fs)
theorem fnB_ok{fs:List FnD}{f:FnD}(hq:BodyQ f.body)(h:fnB fs f=true):FnOkD fs f:=by
 unfold fnB at h
 simp only[Bool.and_eq_true,decide_eq_true_eq,List.all_eq_true,beq_iff_eq]at h
 obtain⟨⟨⟨⟨⟨h1,h2⟩,h3⟩,h4⟩,h5⟩,h6⟩:=h
 exact⟨h1,h2,h3,hq.okB h4,h5,fun x hx=>Qhv (h6 x hx)⟩
def Qft (fns:List Fun)(l:Lab):Bool:=
 Go.CoreX.shape ⟨l.op,l.n,l.binds,l.ops,l.alts⟩&&(l.op==0||l.op==1||l.op==3||l.op==4||l.op==6||l.op==7||l.op==8||l.op==14||l.op==15||l.op==16)&&(!(l.op==8)||(l.n==0||l.n==1||l.n==2||l.n==5||l.n==6||l.n==7)) &&
 decide (l.binds.length<=1048576)&&decide (l.alts.length<=1048576)&&(l.alts.all fun a=>decide (a.binds.length<=1048576))&&decide (l.ops.length<=1048576)&&(!(l.op==1)||(decide (-1073741824<=l.n)&&decide (l.n<=1073741823)))&&(!(l.op==14||l.op==15)||(decide (0<=l.n)&&decide (l.n < fns.length)))&&(!(l.op==14)||((fns.getD l.n.toNat ⟨[],default⟩).params.length==l.ops.length))&&(!(l.op==16)||decide (0<=l.n))
theorem Qfs{fns:List Fun}{l:Lab}(h:Qft fns l=true):FragP fns l:=by
 unfold Qft at h
 simp only[Bool.and_eq_true,Bool.or_eq_true,Bool.not_eq_true',decide_eq_true_eq,beq_iff_eq,beq_eq_false_iff_ne,Bool.or_eq_false_iff,List.all_eq_true]at h
 obtain⟨⟨⟨⟨⟨⟨⟨⟨⟨⟨h1,h2⟩,h3⟩,h4⟩,h5⟩,h6⟩,h7⟩,h8⟩,h9⟩,h10⟩,h11⟩:=h
 exact⟨shpQ_of h1,by omega,fun h=>by have:=h3.resolve_left (by simp[h]);omega,h4,h5,h6,h7,fun h=>h8.resolve_left (by simp[h]),fun h=>h9.resolve_left (by rcases h with h|h <;> simp[h]),fun h=>h10.resolve_left (by simp[h]),fun h=>h11.resolve_left (by simp[h])⟩
mutual
def allTB (p:Lab->Bool):Tr->Bool
 |.mk o n b k a=>p ⟨o,n,b,k.map Tr.op,a⟩&&Qda p k
def Qda (p:Lab->Bool):List Tr->Bool
 |[]=>true
 |t::l=>allTB p t&&Qda p l
end
mutual
theorem Qdc{p:Lab->Bool}{q:Lab->Prop}(hp:∀l,p l=true->q l):∀t:Tr,allTB p t=true->allT q t
 |.mk o n b k a,h=>by
  rw[allTB,Bool.and_eq_true]at h
  exact⟨hp _ h.1,Qaq hp k h.2⟩
theorem Qaq{p:Lab->Bool}{q:Lab->Prop}(hp:∀l,p l=true->q l):∀l:List Tr,Qda p l=true->allTs q l
 |[],h=>trivial
 |t::l,h=>by
  rw[Qda,Bool.and_eq_true]at h
  exact⟨Qdc hp t h.1,Qaq hp l h.2⟩
end
def fnsPB (fns:List Fun):Bool:=fns.all fun f=>allTB (Qft fns) f.body&&decide (f.params.length<=1048576)
theorem Qhl{fns:List Fun}(h:fnsPB fns=true):FnsP fns:=by
 unfold fnsPB at h
 simp only[List.all_eq_true,Bool.and_eq_true,decide_eq_true_eq]at h
 exact⟨fun f hf=>Qdc (fun _=>Qfs) _ (h f hf).1,fun f hf=>(h f hf).2⟩
def eLoop:List Ex:=listT [] (loopT 3)
theorem Q9w:okB eLoop:=Qch (Qb9 _ (Qcf 3)) (by rw[Qd6];omega)
def runB:Bool:=match goX 999 (funsD (progC eLoop)) 500 ⟨.ev (grow ((progC eLoop).getD 0 default).body) .nil,[],[],0,[]⟩ with
 |some (.done m v)=>decide (m.steps<=999)&&m.out==[6]
 |_=>false
theorem runB_t:runB=true:=by kernel_rfl
theorem Qg3:check eLoop=0:=by kernel_rfl
theorem eLoop_h:hasPH eLoop=false:=by kernel_rfl
theorem eLoop_b:(cvR eLoop).2.bad=false:=by kernel_rfl
theorem eLoop_f:((progC eLoop).all fun f=>fnB (progC eLoop) f)=true:=by kernel_rfl
theorem eLoop_p:fnsPB (funsD (progC eLoop))=true:=by kernel_rfl
theorem Qbm:decide ((progC eLoop).length=2)=true:=by kernel_rfl
theorem eLoop_m:((progC eLoop).getD 0 default).params=[]:=by kernel_rfl
theorem get0D{α:Type} [Inhabited α] {l:List α}(h:0 < l.length):l[0]?=some (l.getD 0 default):=by
 rw[List.getD_eq_getElem?_getD,List.getElem?_eq_getElem h];rfl
theorem Qd4:PrgOk (progC eLoop) 0 where
 l:=by have:=of_decide_eq_true Qbm;omega
 b:=fun f hf=>fnB_ok ((Qet Q9w Qg3).1 f hf).2 (List.all_eq_true.1 eLoop_f f hf)
 m:=⟨_,get0D (by have:=of_decide_eq_true Qbm;omega),eLoop_m⟩
theorem Qg1:∃mf vf,PRunsP 999 (progC eLoop) 0 mf vf/\mf.out=[6]:=by
 have h:=runB_t
 unfold runB at h
 split at h
 ·rename_i m v hg
  simp only[Bool.and_eq_true,decide_eq_true_eq,beq_iff_eq]at h
  exact⟨m,v,⟨Qd4,Qhl eLoop_p,by omega,⟨500,_,get0D (by have:=of_decide_eq_true Qbm;omega),hg⟩,by rw[h.2];simp,h.1⟩,h.2⟩
 ·cases h
theorem Qg2{r:FV}(h:CvtR eLoop r):r=.tup [.agg [.sl 3 ((progC eLoop).map encF),int 0],.one (int 0)]:=by
 rcases h with ⟨h,_⟩|⟨_,h,_⟩|⟨_,_,h|h⟩
 ·exact absurd Qg3 h
 ·rw[eLoop_h]at h;cases h
 ·exact absurd ⟨eLoop_b,Qd4⟩ h.2
 ·exact h
theorem Q3s:APure Tryz.prog Γc 24 [] (.one (.lit (.bool true))):=by
 intro ou
 refine AFn.walk 29 tabOk Tryz.func24 rfl (by kernel_rfl) rfl rfl fun hou=>?_
 refine zA ?_
 refine zca hΓc (Qi6 hΓc 3) hou ?_
 refine AOps.call1 hΓc rfl rfl rfl rfl rfl rfl rfl (by simp) hou (Q8b eLoop Q9w ou) fun r ou' hqq _ _=>?_
 obtain⟨rfl,hq⟩:=hqq
 have:=Qg2 hq
 subst this
 clear hq
 refine zA ?_
 obtain⟨mf,vf,hrun,hout⟩:=Qg1
 have hR:=Qhn hrun
 rw[hout]at hR
 refine zca hΓc hR hou ?_
 refine zM ?_
 refine AOps.wk 26 rfl (y:=.one (.sl 1 (([6]:List Int).map cI))) (.refl _) ?_
 refine zca hΓc (Qgh hΓc [6] (by simp)) hou ?_
 refine zM ?_
 exact APure.fin rfl (WkF.ofEq rfl) (by simp) hou rfl
variable {Γ:List (Nat×List AC)}
theorem Qi8(hΓ:∀g cs,(g,cs)∈Γ->idsL isO cs)(gf:Nat)(caps:List AC)(hcap:idsL isO caps)(p:Ex->Bool)(xs:List Ex)(hx:xs.length<=1048576)(hf:∀a∈xs,APure Tryz.prog Γ gf (.agg (cEx a)::caps.map .one) (.one (.lit (.bool (p a))))):
  APure Tryz.prog Γ 39 [.one (.sl 5 (xs.map cEx)),.one (.fn (.func gf) [] caps)] (.one (int (idxOf p xs))):=by
 intro ou
 refine AFn.walk 19 tabOk Tryz.func39 rfl (by kernel_rfl) rfl rfl fun hou=>?_
 refine zA ?_
 refine ACode.loopR hΓ (α:=Nat) (fun j=>[(8,.one (int j)),(7,.one (int (xs.map cEx).length)),(1,.one (.fn (.func gf) [] caps)),(0,.one (.sl 5 (xs.map cEx)))])
  (fun j=>⟨0,[],ou⟩) (fun m j=>j<=xs.length/\(∀x∈xs.take j,p x=false)/\m=xs.length - j) (a0:=0) (ρ:=id) ⟨by omega,by simp,rfl⟩ (LessR.of rfl ?_ ?_ zLO rfl rfl hou) fun m j hj=>?_
 ·refine .cons rfl (.ofEq rfl) (.cons rfl (.ofEq rfl) (.consP rfl (.ofEq rfl) (by simp[hcap]) (.consP rfl (.ofEq rfl) (by simp) .nil)))
 ·simp[Q0o (Q3m _) caps hcap]
 obtain⟨hjl,hno,rfl⟩:=hj
 refine zA ?_
 refine ACode.cond rfl (fun hb2=>?_) (fun hb2=>?_)
 ·have hlt:j < xs.length:=by simpa using hb2
  obtain⟨a,ha⟩:=Q01 hlt
  have hca:=hf a (List.mem_of_getElem? ha)
  refine zA ?_
  refine zS (zIA rfl rfl rfl (by omega) (by simpa using Q04 ha)) ?_
  refine zA ?_
  refine AOps.callC hΓ hca rfl rfl rfl rfl rfl rfl rfl hou (by simp[Qa8 hcap]) ?_
  refine zA ?_
  refine ACode.cond rfl (fun hb3=>?_) (fun hb3=>?_)
  ·refine zA ?_
   refine APure.fin rfl (WkF.ofEq ?_) (by simp) hou rfl
   rw[Q6b hno ha hb3]
  ·refine zA ?_
   refine zS (AStep.arith rfl rfl rfl (.inl ⟨rfl,rfl⟩) zI) ?_
   refine zA ?_
   refine cInv ⟨xs.length - (j+1),j+1,id,by omega,⟨by omega,Q0t hno ha hb3,rfl⟩,LessR.of rfl ?_ ?_ zLO rfl rfl hou⟩
   ·refine .cons rfl (.ofEq rfl) (.cons rfl (.ofEq rfl) (.consP rfl (.ofEq rfl) (by simp[hcap]) (.consP rfl (.ofEq rfl) (by simp) .nil)))
   ·simp[Q0o (Q3m _) caps hcap]
 ·have hlt:j=xs.length:=by simp at hb2;omega
  subst hlt
  rw[List.take_length]at hno
  refine zA ?_
  refine APure.fin rfl (WkF.ofEq ?_) (by simp) hou rfl
  rw[Q42 hno]
theorem Qi9(hΓ:∀g cs,(g,cs)∈Γ->idsL isO cs)(gf:Nat)(caps:List AC)(hcap:idsL isO caps)(p:Ex->Bool)(xs:List Ex)(hx:xs.length<=1048576)(hf:∀a∈xs,APure Tryz.prog Γ gf (.agg (cEx a)::caps.map .one) (.one (.lit (.bool (p a))))):
  APure Tryz.prog Γ 22 [.one (.sl 5 (xs.map cEx)),.one (.fn (.func gf) [] caps)] (.one (.lit (.bool (xs.any p)))):=by
 intro ou
 refine AFn.walk 9 tabOk Tryz.func22 rfl (by kernel_rfl) rfl rfl fun hou=>?_
 refine zA ?_
 refine AOps.callC hΓ (Qi8 hΓ gf caps hcap p xs hx hf) rfl rfl rfl rfl rfl rfl rfl hou (by simp[hcap]) ?_
 refine zA ?_
 refine APure.fin rfl (WkF.ofEq ?_) (by simp) hou rfl
 rw[←Q72]

def phX (x:Ex):Bool:=x.op==12||x.op==13
theorem phX_ok(x:Ex):APure Tryz.prog Γ 23 (.agg (cEx x)::[].map .one) (.one (.lit (.bool (phX x)))):=by
 intro ou
 refine AFn.walk 11 tabOk Tryz.func23 rfl (by kernel_rfl) rfl rfl fun hou=>?_
 refine zA ?_
 refine AOps.splitS rfl rfl rfl rfl (fun h12=>?_) (fun h12=>?_)
 ·refine zM ?_
  have h13:x.op=12:=by simpa using h12
  exact APure.fin rfl (WkF.ofEq (by simp[phX,h13])) (by simp) hou rfl
 refine zM ?_
 refine APure.fin rfl (WkF.ofEq ?_) (by simp) hou rfl
 have:¬x.op=12:=by simpa using h12
 simp[phX,this]
 try rfl
theorem CvtR.form{e:List Ex}{r:FV}(h:CvtR e r):∃X k,(X=nilS2∨X=.sl 3 ((progC e).map encF))/\r=.tup [.agg [X,int 0],.one (int k)]/\(check e≠0->k=check e)/\(check e=0->hasPH e=true->k=3)/\(check e=0->hasPH e=false->k=0∨k=2):=by
 rcases h with ⟨h,rfl⟩|⟨h,h2,rfl⟩|⟨h,h2,⟨rfl,_⟩|rfl⟩
 ·exact⟨_,_,.inl rfl,rfl,fun _=>rfl,fun h3=>absurd h3 h,fun h3=>absurd h3 h⟩
 ·exact⟨_,_,.inl rfl,rfl,fun h3=>absurd h h3,fun _ _=>rfl,fun _ h3=>by rw[h2]at h3;cases h3⟩
 ·exact⟨_,_,.inl rfl,rfl,fun h3=>absurd h h3,fun _ h3=>(by rw[h2]at h3;cases h3),fun _ _=>.inr rfl⟩
 ·exact⟨_,_,.inr rfl,rfl,fun h3=>absurd h h3,fun _ h3=>(by rw[h2]at h3;cases h3),fun _ _=>.inl rfl⟩
theorem Q7m(e:List Ex)(he:okB e):APure Tryz.prog Γc 6 [.one (.sl 5 (e.map cEx))] (.one (.lit (.bool true))):=by
 have hel:=he.eo.l
 intro ou
 refine AFn.walk 41 tabOk Tryz.func6 rfl (by kernel_rfl) rfl rfl fun hou=>?_
 refine zA ?_
 refine AOps.call1 hΓc rfl rfl rfl rfl rfl rfl rfl (by simp) hou (Q8b e he ou) fun r ou' hqq _ _=>?_
 obtain⟨rfl,hq⟩:=hqq
 obtain⟨X,k,hX,rfl,h1,h2,h3⟩:=hq.form
 clear hq
 have hXi:∀p:Abs.Id->Prop,X.ids p:=fun p=>by rcases hX with rfl|rfl <;> simp[Q91]
 refine zA ?_
 refine zca hΓc (Qi9 hΓc 23 [] trivial phX e hel (fun a _=>phX_ok a)) hou ?_
 refine zA ?_
 refine zca hΓc (Qdj e he) hou ?_
 refine zA ?_
 have hany:e.any phX=hasPH e:=rfl
 refine ACode.cond rfl (fun hb=>?_) (fun hb=>?_)
 ·have hck:check e≠0:=by simpa using hb
  have:=h1 hck
  subst this
  clear h2 h3
  refine zA ?_
  refine zca hΓc Q3s hou ?_
  refine zM ?_
  refine APure.fin rfl (WkF.ofEq (by simp)) (by simp) hou rfl
 have hck:check e=0:=by simpa using hb
 refine zA ?_
 refine ACode.cond rfl (fun hb2=>?_) (fun hb2=>?_)
 ·have:=h2 hck (hany▸hb2)
  subst this
  refine zA ?_
  refine zca hΓc Q3s hou ?_
  refine zM ?_
  refine APure.fin rfl (WkF.ofEq (by simp)) (by simp) hou rfl
 have h4:=h3 hck (hany▸hb2)
 refine zA ?_
 refine zca hΓc Q3s hou ?_
 rcases h4 with rfl|rfl
 ·refine zM ?_
  refine APure.fin rfl (WkF.ofEq (by simp)) (by simp) hou rfl
 ·refine zM ?_
  refine APure.fin rfl (WkF.ofEq (by simp)) (by simp) hou rfl
end Go.Proofs.YtdpdlkgecmgokaaGreatDoor
