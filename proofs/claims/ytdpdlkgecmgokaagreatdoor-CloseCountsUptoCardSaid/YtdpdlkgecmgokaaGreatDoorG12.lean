/- flat.Run of a program, whatever its machine answers, walked. -/
import Derived.Test.YtdpdlkgecmgokaaGreatDoorG11
import Derived.KernelRfl
set_option maxRecDepth 10000
set_option linter.unusedVariables false
set_option linter.unusedSimpArgs false
namespace Go.Proofs.YtdpdlkgecmgokaaGreatDoor
open Go Go.Abs Go.CoreX
def WholeR (fs:List FnD)(f0:FnD)(fu:Int)(r0:FV):Prop:=AFn Tryz.prog Γc 34 [.one (.ptr (.o 0) 0)] (ouOf [.cells (mC (.box (cTr (grow f0.body))) nilPE (.lit .nilIface) nilPE [] 0 fu ⟨.sl 2 ((funsD fs).map cFun),1⟩),.tok 3 1 0]) (fun r ou'=>r=r0/\ou'=ouOf [.dead,.dead])
theorem Qby{fu:Int}{fs:List FnD}{main:Nat}{f0:FnD}{out:List (List AC)}{c1 c2 c3 c4:AC}(hok:PrgOk fs main)(hf0:fs[main]?=some f0)(hr0:∀p:Abs.Id->Prop,(FV.tup [.agg [.sl 1 out,c1,c2],.one c3,.one c4]).ids p)(hwh:WholeR fs f0 fu (.tup [.agg [.sl 1 out,c1,c2],.one c3,.one c4])):
  APure Tryz.prog Γc 28 [.agg [.sl 3 (fs.map encF),int (main:Int)],.one (int fu)] (.tup [.agg [.sl 1 out,c1,c2],.one c3,.one c4]):=by
 have hfl:=hok.l
 intro ou
 refine AFn.walk 53 tabOk Tryz.func28 rfl (by kernel_rfl) rfl rfl fun hou=>?_
 refine zA ?_
 refine ACode.grow 2 7 90 2 rfl rfl ?_
 refine ACode.loopR hΓc (α:=Nat) (fun j=>[(16,.one (int j)),(15,.one (int (fs.map encF).length)),(14,.one (.sl 3 (fs.map encF))),(7,.one (.ptr (.l 2) 0)),(4,.one (.ptr (.l 1) 0)),(2,.one (.ptr (.l 0) 0)),(6,.one (int 0)),(5,.one (int 0))])
  (fun j=>⟨4,[(3,.tok 90 2 j),(2,.cells [nilPE,nilPE,.lit .nilIface,nilPE,nilS,int 0,int fu,.gs 2 ((funsD (fs.take j)).map cFun) (.l 3)]),(1,.cells [nilS,int 0,int 0]),(0,.cells [.sl 3 (fs.map encF),int (main:Int)])],ou⟩) (fun m j=>j<=fs.length/\m=fs.length - j) (a0:=0) (ρ:=_root_.id) ⟨by omega,rfl⟩
  (LessR.of rfl zFS (by simp) ?_ rfl rfl hou) fun m j hj=>?_
 ·repeat' first|exact LoSub.nil|refine zlc ?_|refine zld ?_ ?_|rfl
  all_goals (simp[AObj.ren,renL,AC.ren];rfl)
 obtain⟨hjl,rfl⟩:=hj
 refine zA ?_
 refine ACode.cond rfl (fun hb2=>?_) (fun hb2=>?_)
 ·have hlt:j < fs.length:=by simpa using hb2
  obtain⟨x,hx⟩:=Q01 hlt
  have hxb:=hok.b x (List.mem_of_getElem? hx)
  have t1:=Q1m hxb.b
  have hgr:=Qc0 hΓc x.body hxb.okb.eo t1.k t1.ne
  have hjl2:((funsD (fs.take j)).map cFun).length=j:=by simp[Qfz];omega
  refine zA ?_
  refine zS (zIA rfl rfl rfl (by omega) (Q04 hx)) ?_
  refine zA ?_
  refine ACode.drawXH (va:=.one (.gs 2 ((funsD (fs.take j)).map cFun++[cFun (funD x)]) (.l 5))) (σ1:=((((St.mk 4 [(3,.tok 90 2 j),(2,.cells [nilPE,nilPE,.lit .nilIface,nilPE,nilS,int 0,int fu,.gs 2 ((funsD (fs.take j)).map cFun) (.l 3)]),(1,.cells [nilS,int 0,int 0]),(0,.cells [.sl 3 (fs.map encF),int (main:Int)])] ou).push (.cells (ti42.zero.map .lit))).set (.l 4) (.cells (encF x))).set (.l 3) .dead).push (.tok 90 2 ((funsD (fs.take j)).map cFun++[cFun (funD x)]).length))
   tabOk 13 12 [(9,.one (.box (cTr (grow x.body))))] follows (by kernel_rfl) rfl rfl rfl rfl rfl rfl rfl ?_ ?_ ?_ ?_
  ·refine HStep.plain rfl (AStep.append (s:=2) (es:=(funsD (fs.take j)).map cFun) (news:=[cFun (funD x)]) (ti:=ti73) (σ:=((St.mk 4 [(3,.tok 90 2 j),(2,.cells [nilPE,nilPE,.lit .nilIface,nilPE,nilS,int 0,int fu,.gs 2 ((funsD (fs.take j)).map cFun) (.l 3)]),(1,.cells [nilS,int 0,int 0]),(0,.cells [.sl 3 (fs.map encF),int (main:Int)])] ou).push (.cells (ti42.zero.map .lit))).set (.l 4) (.cells (encF x))) tabOk rfl rfl rfl rfl rfl rfl (Base.gs' _ 90 2 ((funsD (fs.take j)).map cFun) (.l 3) rfl hjl2.symm) (.sl _ _) rfl ?_ ?_)
   ·rw[hjl2];show (j+1) * 32<=_;omega
   ·rw[hjl2];show j+1<=_;omega
  ·exact .call hΓc hgr hou (by simp) rfl rfl rfl rfl rfl rfl .nil
  ·exact .call hΓc hgr hou (by simp) rfl rfl rfl rfl rfl rfl .nil
  refine zM ?_
  refine cInv ⟨fs.length - (j+1),j+1,fun k=>if k=3 then 5 else k,by omega,⟨by omega,rfl⟩,LessR.of rfl zFS (by simp) ?_ rfl rfl hou⟩
  repeat' first|exact LoSub.nil|refine zlc ?_|refine zld ?_ ?_|rfl
  ·simp only[AObj.ren,List.length_append,hjl2];rfl
  ·rw[Qe4 hx];simp only[AObj.ren,renL,AC.ren,Qez];rw[List.map_append];rfl
 have hlt:j=fs.length:=by simp at hb2;omega
 subst hlt
 rw[List.take_length]
 refine zA ?_
 refine ACode.wkObj (.l 2) rfl (cs':=[nilPE,nilPE,.lit .nilIface,nilPE,nilS,int 0,int fu,.sl 2 ((funsD fs).map cFun)]) (fun w C xs h=>(show WkL _ _ from .cons (.refl _) (.cons (.refl _) (.cons (.refl _) (.cons (.refl _) (.cons (.refl _) (.cons (.refl _) (.cons (.refl _) (.cons (.gsE rfl) .nil)))))))) w C xs h) ?_
 refine ACode.drawX tabOk 12 [(7,.one (.box (cFun (funD f0))))] follows (by kernel_rfl) rfl rfl rfl rfl ?_ ?_
 ·exact .step rfl (zHP (zIA rfl rfl rfl (Int.natCast_nonneg main) (Qi5 hf0))) .nil
 repeat ((fail_if_success ((with_reducible refine oj ?_);refine AOps.atDst 49 rfl ?_));first|refine zO ?_)
 refine AOps.growO 2 4 3 1 rfl rfl ?_
 refine AOps.callR [.l 2,.l 4] [.one (.ptr (.o 0) 0)] [.cells (mC (.box (cTr (grow f0.body))) nilPE (.lit .nilIface) nilPE [] 0 fu ⟨.sl 2 ((funsD fs).map cFun),1⟩),.tok 3 1 0] hΓcF rfl rfl rfl rfl rfl rfl ?_ ?_ ?_ ?_ ?_ hwh ?_
 ·rfl
 ·simp[inO]
 ·simp
 ·refine⟨?_,rfl,trivial⟩
  simp only[AObj.sub,mC,subL,AC.sub,nameOf,List.map_nil,subS]
  rw[Q1t _ _ (by simp),Q6o _ _ (Q6c _ _)]
  rfl
 ·simp[inO,mC]
  exact Q6c _ _
 intro r ou' hq
 obtain⟨rfl,rfl⟩:=hq
 refine⟨[.dead,.dead],rfl,rfl,by simp,hr0 _,?_⟩
 rw[FV.sub_pure _ _ (hr0 _)]
 refine zA ?_
 exact APure.fin rfl (WkF.ofEq rfl) (hr0 _) hou rfl
theorem Qhx{fu:Int}{fs:List FnD}{main:Nat}{f0:FnD}{out:List (List AC)}{c1 c2 c3 c4:AC}(hfu:1<=fu/\fu<=1000000)(hok:PrgOk fs main)(hf0:fs[main]?=some f0)(hr0:∀p:Abs.Id->Prop,(FV.tup [.agg [.sl 1 out,c1,c2],.one c3,.one c4]).ids p)(hwh:WholeR fs f0 fu (.tup [.agg [.sl 1 out,c1,c2],.one c3,.one c4])):
  APure Tryz.prog Γc 10 [.agg [.sl 3 (fs.map encF),int (main:Int)],.one (int fu)] (.tup [.agg [.sl 1 out,c1,c2],.one c3,.one c4]):=by
 intro ou
 refine AFn.walk 27 tabOk Tryz.func10 rfl (by kernel_rfl) rfl rfl fun hou=>?_
 refine zA ?_
 refine zca hΓc (Qaf fs main hok) hou ?_
 refine zM ?_
 have hf1:decide (fu < 1)=false:=by simp;omega
 refine AOps.wk 16 rfl (y:=.one (.lit (.bool false))) (.ofEq (by show FV.one (.lit (.bool (decide (fu < 1))))=_;rw[hf1])) ?_
 refine zM ?_
 refine ACode.cond rfl (fun hb=>absurd (show 1000000 < fu by simpa using hb) (by omega)) (fun _=>?_)
 refine zM ?_
 refine zca hΓc (Qby hok hf0 hr0 hwh) hou ?_
 refine zM ?_
 exact APure.fin rfl (WkF.ofEq rfl) (hr0 _) hou rfl
structure PRunsP (fu:Int)(fs:List FnD)(main:Nat)(mf:Ms)(vf:Vl):Prop where
 ok:PrgOk fs main
 fns:FnsP (funsD fs)
 fu0:1<=fu/\fu<=1000000
 go:∃g f,fs[main]?=some f/\goX fu (funsD fs) g ⟨.ev (grow f.body) .nil,[],[],0,[]⟩=some (.done mf vf)
 out:mf.out.length<=1000
 st:mf.steps<=fu
theorem Qhw{fu:Int}{fs:List FnD}{main:Nat}{mf:Ms}{vf:Vl}(h:PRunsP fu fs main mf vf):
  APure Tryz.prog Γc 10 [.agg [.sl 3 (fs.map encF),int (main:Int)],.one (int fu)] (.tup [.agg [.sl 1 (mf.out.map cI),int 0,int (lastV vf)],.one (int mf.steps),.one (int 0)]):=by
 obtain⟨g,f0,hf0,hg⟩:=h.go
 have hac:(AC.sl 2 ((funsD fs).map cFun)).ids isO:=by show idsS isO _;exact Q80 _
 have hM0:=Qie (grow f0.body) fu (.sl 2 ((funsD fs).map cFun)) hac
 have hkc:=kidC4 hΓc (fu:=fu) h.fns
 have hsc:=startC4 hΓc (fu:=fu) h.fns
 have hbm:allT (FragP (funsD fs)) (grow f0.body):=h.fns.b _ (List.mem_map.2 ⟨f0,List.mem_of_getElem? hf0,rfl⟩)
 have hgm:gM (G4 (funsD fs)) ⟨.ev (grow f0.body) .nil,[],[],0,[]⟩:=⟨⟨hbm,trivial⟩,trivial,fun r hr=>by cases hr⟩
 have hrun:=run_ok hΓc (ac:=.sl 2 ((funsD fs).map cFun)) hac (G4ok h.fns) (fun t ht=>G4opn ht) hkc hsc hM0 hgm hg (fun hr=>hr.elim) h.out ⟨by have:=h.fu0;omega,h.fu0.2⟩ (by simp) h.st
 have hwh0:=Qgt (ac:=.sl 2 ((funsD fs).map cFun)) (kt0:=1) hΓc hrun
 refine Qhx h.fu0 h.ok hf0 (fun p=>by simp) ?_
 refine AFn.forgetD (AFn.mono hwh0 fun r ou' hq=>⟨ouOf [.dead,.dead],fun m o hmo=>?_,hq,rfl⟩)
 match m,hmo with
 |0,hmo=>cases hmo;exact .inr ⟨rfl,_,rfl⟩
 |1,hmo=>cases hmo;exact .inr ⟨rfl,_,rfl⟩
 |m+2,hmo=>simp[ouOf]at hmo
set_option maxRecDepth 100000
theorem Q9u{e:List Ex}(he:okB e)(hck:check e=0):FnsW (progC e)/\(progC e).length=1+lamN (grow e):=by
 have hT:=Q9k he hck
 have hcn:=hT.c4
 have hsz:=cv_sz (cntN (grow e)) (grow e) (Nat.le_refl _) hcn hT.fr hT.ok sc0 (bs0 e) (by decide)
 have hmo:=Q52 (cntN (grow e)) (grow e) hT.c hT.fr sc0 (bs0 e)
 have hws:=cv_w (cntN (grow e)) (grow e) hT sc0 (bs0 e) (by decide) (fun f hf=>by
  have:f=⟨-1,[],[]⟩:=by simpa[bs0]using hf
  subst this
  exact⟨by simp,.inl rfl⟩)
 change FnsW (cvR e).2.fns at hws
 change MovB (bs0 e) (cvR e).2 _ at hmo
 change cntN (cvR e).1<=_/\okT (cvR e).1 at hsz
 have hln:(cvR e).2.fns.length=1+lamN (grow e):=hmo.len
 have hpos:0 < (cvR e).2.fns.length:=by omega
 refine⟨?_,by rw[progC,Q3x,hln]⟩
 refine FnsW.put hws 0 ?_ (.inr ⟨_,hsz.2,by omega,rfl⟩)
 rw[List.getD_eq_getElem?_getD,List.getElem?_eq_getElem hpos]
 exact (hws _ (List.getElem_mem hpos)).1
def callB (fs:List FnD)(x:Ex):Bool:=!(x.op==14||x.op==15)||(decide (0<=x.n)&&match fs[x.n.toNat]? with
 |some g=>(!(x.op==14)||x.kids.length==g.params.length)&&(!(x.op==15)||!(g.params.length==0))
 |none=>false)
theorem Qi4{fs:List FnD}{x:Ex}(h:callB fs x=true):Qbt fs x:=fun ho=>by
 unfold callB at h
 have h0:(x.op==14||x.op==15)=true:=by rcases ho with h|h <;> simp[h]
 rw[h0]at h
 simp only[Bool.not_true,Bool.false_or,Bool.and_eq_true,decide_eq_true_eq]at h
 obtain⟨h1,h2⟩:=h
 split at h2
 ·rename_i g hg
  simp only[Bool.and_eq_true,Bool.or_eq_true,Bool.not_eq_true',beq_eq_false_iff_ne,beq_iff_eq]at h2
  exact⟨x.n.toNat,g,by omega,hg,fun h=>h2.1.resolve_left (by simp[h]),fun h=>h2.2.resolve_left (by simp[h])⟩
 ·cases h2
def fnB (fs:List FnD)(f:FnD):Bool:=(decide (-1<=f.name)&&decide (f.name < 1048576))&&decide (f.params.length<=6)&&f.params.all (fun x=>decide (0<=x)&&decide (x < 1048576))&&decide (f.body.length<=4096)&&body f.body f.params true==0&&f.body.all (callB fs)
theorem fnB_ok{fs:List FnD}{f:FnD}(hq:BodyQ f.body)(h:fnB fs f=true):FnOkD fs f:=by
 unfold fnB at h
 simp only[Bool.and_eq_true,decide_eq_true_eq,List.all_eq_true,beq_iff_eq]at h
 obtain⟨⟨⟨⟨⟨h1,h2⟩,h3⟩,h4⟩,h5⟩,h6⟩:=h
 exact⟨h1,h2,h3,hq.okB h4,h5,fun x hx=>Qi4 (h6 x hx)⟩
def Qg2 (fns:List Fun)(l:Lab):Bool:=
 Go.CoreX.shape ⟨l.op,l.n,l.binds,l.ops,l.alts⟩&&(l.op==0||l.op==1||l.op==3||l.op==4||l.op==6||l.op==7||l.op==8||l.op==14||l.op==15||l.op==16)&&(!(l.op==8)||(l.n==0||l.n==1||l.n==2||l.n==5||l.n==6||l.n==7)) &&
 decide (l.binds.length<=1048576)&&decide (l.alts.length<=1048576)&&(l.alts.all fun a=>decide (a.binds.length<=1048576))&&decide (l.ops.length<=1048576)&&(!(l.op==1)||(decide (-1073741824<=l.n)&&decide (l.n<=1073741823)))&&(!(l.op==14||l.op==15)||(decide (0<=l.n)&&decide (l.n < fns.length)))&&(!(l.op==14)||((fns.getD l.n.toNat ⟨[],default⟩).params.length==l.ops.length))&&(!(l.op==16)||decide (0<=l.n))
theorem Qg1{fns:List Fun}{l:Lab}(h:Qg2 fns l=true):FragP fns l:=by
 unfold Qg2 at h
 simp only[Bool.and_eq_true,Bool.or_eq_true,Bool.not_eq_true',decide_eq_true_eq,beq_iff_eq,beq_eq_false_iff_ne,Bool.or_eq_false_iff,List.all_eq_true]at h
 obtain⟨⟨⟨⟨⟨⟨⟨⟨⟨⟨h1,h2⟩,h3⟩,h4⟩,h5⟩,h6⟩,h7⟩,h8⟩,h9⟩,h10⟩,h11⟩:=h
 exact⟨shpQ_of h1,by omega,fun h=>by have:=h3.resolve_left (by simp[h]);omega,h4,h5,h6,h7,fun h=>h8.resolve_left (by simp[h]),fun h=>h9.resolve_left (by rcases h with h|h <;> simp[h]),fun h=>h10.resolve_left (by simp[h]),fun h=>h11.resolve_left (by simp[h])⟩
mutual
def allTB (p:Lab->Bool):Tr->Bool
 |.mk o n b k a=>p ⟨o,n,b,k.map Tr.op,a⟩&&Qdg p k
def Qdg (p:Lab->Bool):List Tr->Bool
 |[]=>true
 |t::l=>allTB p t&&Qdg p l
end
mutual
theorem Qdi{p:Lab->Bool}{q:Lab->Prop}(hp:∀l,p l=true->q l):∀t:Tr,allTB p t=true->allT q t
 |.mk o n b k a,h=>by
  rw[allTB,Bool.and_eq_true]at h
  exact⟨hp _ h.1,Qas hp k h.2⟩
theorem Qas{p:Lab->Bool}{q:Lab->Prop}(hp:∀l,p l=true->q l):∀l:List Tr,Qdg p l=true->allTs q l
 |[],h=>trivial
 |t::l,h=>by
  rw[Qdg,Bool.and_eq_true]at h
  exact⟨Qdi hp t h.1,Qas hp l h.2⟩
end
def fnsPB (fns:List Fun):Bool:=fns.all fun f=>allTB (Qg2 fns) f.body&&decide (f.params.length<=1048576)
theorem Qhu{fns:List Fun}(h:fnsPB fns=true):FnsP fns:=by
 unfold fnsPB at h
 simp only[List.all_eq_true,Bool.and_eq_true,decide_eq_true_eq]at h
 exact⟨fun f hf=>Qdi (fun _=>Qg1) _ (h f hf).1,fun f hf=>(h f hf).2⟩
def eLoop:List Ex:=listT [] (loopT 3)
theorem Q9w:okB eLoop:=Qck (Qbb _ (Qci 3)) (by rw[Qdc];omega)
def runB:Bool:=match goX 999 (funsD (progC eLoop)) 500 ⟨.ev (grow ((progC eLoop).getD 0 default).body) .nil,[],[],0,[]⟩ with
 |some (.done m v)=>decide (m.steps<=999)&&m.out==[6]
 |_=>false
theorem runB_t:runB=true:=by kernel_rfl
theorem Qgc:check eLoop=0:=by kernel_rfl
theorem eLoop_h:hasPH eLoop=false:=by kernel_rfl
theorem eLoop_b:(cvR eLoop).2.bad=false:=by kernel_rfl
theorem eLoop_f:((progC eLoop).all fun f=>fnB (progC eLoop) f)=true:=by kernel_rfl
theorem eLoop_p:fnsPB (funsD (progC eLoop))=true:=by kernel_rfl
theorem Qbp:decide ((progC eLoop).length=2)=true:=by kernel_rfl
theorem eLoop_m:((progC eLoop).getD 0 default).params=[]:=by kernel_rfl
theorem get0D{α:Type} [Inhabited α] {l:List α}(h:0 < l.length):l[0]?=some (l.getD 0 default):=by
 rw[List.getD_eq_getElem?_getD,List.getElem?_eq_getElem h];rfl
theorem Qda:PrgOk (progC eLoop) 0 where
 l:=by have:=of_decide_eq_true Qbp;omega
 b:=fun f hf=>fnB_ok ((Q9u Q9w Qgc).1 f hf).2 (List.all_eq_true.1 eLoop_f f hf)
 m:=⟨_,get0D (by have:=of_decide_eq_true Qbp;omega),eLoop_m⟩
theorem Qga:∃mf vf,PRunsP 999 (progC eLoop) 0 mf vf/\mf.out=[6]:=by
 have h:=runB_t
 unfold runB at h
 split at h
 ·rename_i m v hg
  simp only[Bool.and_eq_true,decide_eq_true_eq,beq_iff_eq]at h
  exact⟨m,v,⟨Qda,Qhu eLoop_p,by omega,⟨500,_,get0D (by have:=of_decide_eq_true Qbp;omega),hg⟩,by rw[h.2];simp,h.1⟩,h.2⟩
 ·cases h
theorem Qgb{r:FV}(h:CvtR eLoop r):r=.tup [.agg [.sl 3 ((progC eLoop).map encF),int 0],.one (int 0)]:=by
 rcases h with ⟨h,_⟩|⟨_,h,_⟩|⟨_,_,h|h⟩
 ·exact absurd Qgc h
 ·rw[eLoop_h]at h;cases h
 ·exact absurd ⟨eLoop_b,Qda⟩ h.2
 ·exact h
theorem Q63:APure Tryz.prog Γc 24 [] (.one (.lit (.bool true))):=by
 intro ou
 refine AFn.walk 29 tabOk Tryz.func24 rfl (by kernel_rfl) rfl rfl fun hou=>?_
 refine zA ?_
 refine zca hΓc (Qif hΓc 3) hou ?_
 refine AOps.call1 hΓc rfl rfl rfl rfl rfl rfl rfl (by simp) hou (Q8a eLoop Q9w ou) fun r ou' hqq _ _=>?_
 obtain⟨rfl,hq⟩:=hqq
 have:=Qgb hq
 subst this
 clear hq
 refine zA ?_
 obtain⟨mf,vf,hrun,hout⟩:=Qga
 have hR:=Qhw hrun
 rw[hout]at hR
 refine zca hΓc hR hou ?_
 refine zM ?_
 refine AOps.wk 26 rfl (y:=.one (.sl 1 (([6]:List Int).map cI))) (.refl _) ?_
 refine zca hΓc (Qgq hΓc [6] (by simp)) hou ?_
 refine zM ?_
 exact APure.fin rfl (WkF.ofEq rfl) (by simp) hou rfl
variable {Γ:List (Nat×List AC)}
def gLam (l:Lab):Int:=if l.op=2 then 1 else 0
mutual
theorem Qfa:∀t:Tr,sumT gLam t=lamN t
 |.mk o n b k a=>by
  have:=Qcr k
  simp only[sumT,gLam,lamN,this]
  split <;> push_cast <;> rfl
theorem Qcr:∀l:List Tr,sumTs gLam l=lamNs l
 |[]=>rfl
 |t::l=>by simp only[sumTs,lamNs,Qfa t,Qcr l];push_cast;rfl
end
def lamsE (e:List Ex):Int:=((e.map fun x=>if x.op=2 then (1:Int)else 0)).sum
theorem Qe0{e:List Ex}(h:IsTree e):lamsE e=lamN (grow e):=by
 rw[←Qfa,←Q68 gLam h]
 unfold lamsE labs
 rw[List.map_map]
 rfl
def Nm0 (b b':Bs):Prop:=∀j,j < b.fns.length->j < b'.fns.length/\(b'.fns.getD j default).name=(b.fns.getD j default).name
theorem Nm0.refl(b:Bs):Nm0 b b:=fun j h=>⟨h,rfl⟩
theorem Nm0.trans{a b c:Bs}(h:Nm0 a b)(h2:Nm0 b c):Nm0 a c:=fun j hj=>⟨(h2 j (h j hj).1).1,by rw[(h2 j (h j hj).1).2,(h j hj).2]⟩
theorem Q9t(fns:List FnD)(i:Nat)(ps:List Int)(e:List Ex)(j:Nat):((putD fns i ps e).getD j default).name=(fns.getD j default).name:=by
 unfold putD
 rw[List.getD_eq_getElem?_getD,List.getElem?_set]
 split
 ·rename_i h
  subst h
  split
  ·simp
  ·rename_i h2
   rw[List.getD_eq_getElem?_getD,List.getElem?_eq_none (by omega)]
 ·rw[List.getD_eq_getElem?_getD]
theorem Qad{cv:Sc->Tr->Bs->Tr×Bs}(hcv:∀s t b,Nm0 b (cv s t b).2)(needs group:List Int)(base:Nat)(fns:List Tr)(b:Bs):∀i,Nm0 b (Q1f cv needs group base fns i b)
 |0=>.refl b
 |i+1=>by
  refine (Qad hcv needs group base fns b i).trans ?_
  simp only[Q1f,Q76]
  intro j hj
  obtain⟨h1,h2⟩:=hcv (scF needs group base (Q1f cv needs group base fns i b).next) ((fns.getD i default).kids.getD 0 default) { (Q1f cv needs group base fns i b)with next:=(Q1f cv needs group base fns i b).next+1 } j hj
  exact⟨by simp only[Q3x];exact h1,by simp only[Q9t];exact h2⟩
theorem Qbm{cv:Sc->Tr->Bs->Tr×Bs}(hcv:∀s t b,Nm0 b (cv s t b).2)(fns:List Tr)(group names:List Int)(b:Bs):Nm0 b (fnsM cv fns group names b):=by
 have h:=Qad hcv (outside fns group) group b.fns.length fns { b with fns:=b.fns++newF names fns.length } fns.length
 refine Nm0.trans (b:={ b with fns:=b.fns++newF names fns.length }) (fun j hj=>⟨?_,?_⟩) fun j hj=>?_
 ·simp only[List.length_append];omega
 ·simp only[List.getD_eq_getElem?_getD]
  rw[List.getElem?_append_left hj]
 ·obtain⟨h1,h2⟩:=h j hj
  exact⟨h1,h2⟩
theorem Qaj{cv:Tr->Bs->Tr×Bs}(hcv:∀t b,Nm0 b (cv t b).2)(ks:List Tr)(b:Bs):∀i,Nm0 b (Q0o cv ks i b).2
 |0=>.refl b
 |i+1=>(Qaj hcv ks b i).trans (hcv _ _)
theorem cv_nm:∀(n:Nat)(s:Sc)(t:Tr)(b:Bs),Nm0 b (cv n s t b).2
 |0,s,t,b=>.refl b
 |n+1,s,.mk o x bs ks al,b=>by
  have ih:=cv_nm n
  simp only[cv]
  split
  ·exact .refl b
  split
  ·exact Qbm ih _ _ _ b
  split
  ·exact (Qbm ih _ _ _ b).trans (ih _ _ _)
  split
  ·exact (Qbm ih _ _ _ b).trans (ih _ _ _)
  exact Qaj (ih s) ks b _
theorem Qdq(e:List Ex):((progC e).getD 0 default).name=-1:=by
 unfold progC
 rw[Q9t]
 exact (cv_nm (cntN (grow e)) sc0 (grow e) (bs0 e) 0 (by simp[bs0])).2
theorem Qe1{e:List Ex}{j:Nat}{x:Ex}(h:e[j]?=some x):lamsE (e.take (j+1))=lamsE (e.take j)+if x.op=2 then 1 else 0:=by
 rw[Q1c h]
 simp[lamsE]
theorem Qcs(e:List Ex):0<=lamsE e/\lamsE e<=e.length:=by
 induction e with
 |nil=>simp[lamsE]
 |cons x l ih=>
  have:lamsE (x::l)=(if x.op=2 then 1 else 0)+lamsE l:=by simp[lamsE]
  rw[this]
  simp only[List.length_cons]
  split <;> push_cast <;> omega
theorem CvtR.form2{e:List Ex}{r:FV}(h:CvtR e r):(∃k:Int,k≠0/\r=.tup [.agg [nilS2,int 0],.one (int k)])∨(check e=0/\r=.tup [.agg [.sl 3 ((progC e).map encF),int 0],.one (int 0)]):=by
 rcases h with ⟨h,rfl⟩|⟨h,h2,rfl⟩|⟨h,h2,⟨rfl,_⟩|rfl⟩
 ·exact .inl ⟨_,h,rfl⟩
 ·exact .inl ⟨3,by decide,rfl⟩
 ·exact .inl ⟨2,by decide,rfl⟩
 ·exact .inr ⟨h,rfl⟩
theorem Q7m(e:List Ex)(he:okB e):APure Tryz.prog Γc 7 [.one (.sl 5 (e.map cEx))] (.one (.lit (.bool true))):=by
 have hel:=he.eo.l
 intro ou
 refine AFn.walk 56 tabOk Tryz.func7 rfl (by kernel_rfl) rfl rfl fun hou=>?_
 refine zA ?_
 refine AOps.call1 hΓc rfl rfl rfl rfl rfl rfl rfl (by simp) hou (Q8a e he ou) fun r ou' hqq _ _=>?_
 obtain⟨rfl,hq⟩:=hqq
 rcases hq.form2 with ⟨k,hk,rfl⟩|⟨hck,rfl⟩
 ·refine zA ?_
  refine ACode.cond rfl (fun _=>?_) (fun hb=>absurd (by simpa using hb) hk)
  refine zA ?_
  refine zca hΓc Q63 hou ?_
  refine zM ?_
  refine APure.fin rfl (WkF.ofEq (by simp)) (by simp) hou rfl
 have hpc:=Q9u he hck
 have t1:=Q1m hck
 have hsum:=Qe0 t1
 obtain⟨f0,hf0⟩:=Q01 (show 0 < (progC e).length by omega)
 have hnm:f0.name=-1:=by
  have:=Qdq e
  rw[List.getD_eq_getElem?_getD,hf0]at this
  exact this
 clear hq
 refine zA ?_
 refine ACode.loopR hΓc (α:=Nat) (fun j=>[(24,.one (int j)),(23,.one (int (e.map cEx).length)),(22,.one (.sl 5 (e.map cEx))),(5,.one (int (lamsE (e.take j)))),(3,.one (.ptr (.l 0) 0))]) (fun j=>⟨1,[(0,.cells [.sl 3 ((progC e).map encF),int 0])],ou'⟩) (fun m j=>j<=e.length/\m=e.length - j) (a0:=0) (ρ:=_root_.id) ⟨by omega,rfl⟩ (LessR.of rfl zFS (by simp) zLO rfl rfl hou) fun m j hj=>?_
 obtain⟨hjl,rfl⟩:=hj
 refine zA ?_
 refine ACode.cond rfl (fun hb2=>?_) (fun hb2=>?_)
 ·have hlt:j < e.length:=by simpa using hb2
  obtain⟨x,hx⟩:=Q01 hlt
  have hls:=Qe1 hx
  have hl1:=Qcs (e.take j)
  rw[List.length_take,Nat.min_eq_left hjl]at hl1
  obtain⟨o,n,b,k,al⟩:=x
  refine zA ?_
  refine zS (zIA rfl rfl rfl (by omega) (Q04 hx)) ?_
  refine zA ?_
  refine ACode.cond rfl (fun hb3=>?_) (fun hb3=>?_)
  ·have h2:o=2:=by simpa using hb3
   rw[if_pos h2]at hls
   refine zM ?_
   exact cInv ⟨e.length - (j+1),j+1,_root_.id,by omega,⟨by omega,rfl⟩,LessR.of rfl (by rw[hls];(repeat' first|exact FrSub.nil|refine zfc ?_|refine zfo ?_|refine zfp ?_)) (by simp) zLO rfl rfl hou⟩
  ·have h2:o≠2:=by simpa using hb3
   rw[if_neg h2,Int.add_zero]at hls
   refine zM ?_
   exact cInv ⟨e.length - (j+1),j+1,_root_.id,by omega,⟨by omega,rfl⟩,LessR.of rfl (by rw[hls];(repeat' first|exact FrSub.nil|refine zfc ?_|refine zfo ?_|refine zfp ?_)) (by simp) zLO rfl rfl hou⟩
 have hje:j=e.length:=by simp at hb2;omega
 subst hje
 rw[List.take_length]
 refine zA ?_
 refine zca hΓc Q63 hou ?_
 have hcb:=Qcs e
 repeat ((fail_if_success ((with_reducible refine oj ?_);refine AOps.atDst 42 rfl ?_));first|refine zO ?_)
 refine AOps.wk 41 rfl (y:=.one (.lit (.bool true))) (.ofEq (by simp;omega)) ?_
 refine zM ?_
 obtain⟨nm,ps,bd⟩:=f0
 simp only at hnm
 subst hnm
 refine zS (AStep.indexAddr (n:=0) tabOk rfl rfl rfl rfl rfl rfl (.inl rfl) rfl (by decide) (Q04 hf0)) ?_
 refine zM ?_
 exact APure.fin rfl (WkF.ofEq rfl) (by simp) hou rfl
end Go.Proofs.YtdpdlkgecmgokaaGreatDoor
