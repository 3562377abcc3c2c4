/- eval.Program and flat.Run, whatever comes of them, walked. -/
import Derived.Test.YtkgjldchcbfpnaaGreatDoorF13
set_option maxRecDepth 10000
set_option linter.unusedVariables false
set_option linter.unusedSimpArgs false
namespace Go.Proofs.YtkgjldchcbfpnaaGreatDoor
open Go Go.Abs Go.CoreX
theorem Qe3{fs:List FnD}{f:FnD}(h:FnOkD fs f):∀x∈f.body,Q0z f.body x=0/\¬(x.op=2∨x.op=5∨x.op=12∨x.op=13):=by
 have hz:∀x∈f.body,Q0q true f.body x=0:=(Q27 _ _).1 (by
  have h:=h.b
  unfold body at h
  split at h
  ·rename_i h0;exact absurd h h0
  split at h
  ·rename_i h0;exact absurd h h0
  ·rename_i h0;simpa using h0)
 intro x hx
 obtain⟨h1,h2⟩:=Q7n (hz x hx)
 exact⟨h2,fun h=>by simp[Q3f]at h1;omega⟩
theorem Q88{fs:List FnD}{f:FnD}(h:FnOkD fs f):allT (FragU (funsD fs) false) (grow f.body):=by
 have ht:=Q4q h.b
 refine Qh8 ht fun x hx=>?_
 obtain⟨h2,hno⟩:=Qe3 h x hx
 have N:=nodeU ht h.okb hx h2
 refine⟨N.sh,fun h=>absurd (.inr (.inr h)) hno,N.bl,N.al,N.ab,N.kl,N.wd,N.rc,fun ho=>?_,fun ho=>?_,N.sl,N.rb,N.rn⟩
 ·obtain⟨i,g,hn,hg,_,_⟩:=h.c x hx ho
  show 0<=x.n/\x.n < ((funsD fs).length:Int)
  rw[hn,Q73]
  have:=(List.getElem?_eq_some_iff.1 hg).1
  omega
 ·obtain⟨i,g,hn,hg,hk,_⟩:=h.c x hx (.inl ho)
  show ((funsD fs).getD x.n.toNat ⟨[],default⟩).params.length=(labE f.body x).ops.length
  rw[hn,Int.toNat_natCast,List.getD_eq_getElem?_getD,funsD,List.getElem?_map,hg]
  simp[funD,labE,hk ho]
theorem PrgOk.fnsU{fs:List FnD}{main:Nat}(h:PrgOk fs main):FnsU (funsD fs) false where
 b:=fun g hg=>by
  obtain⟨f,hf,rfl⟩:=List.mem_map.1 hg
  exact Q88 (h.b f hf)
 p:=fun g hg=>by
  obtain⟨f,hf,rfl⟩:=List.mem_map.1 hg
  have:=(h.b f hf).pl
  show f.params.length<=1048576
  omega
theorem Qaq{fu:Int}{fs:List FnD}{main:Nat}(h:PrgOk fs main)(hfu:1<=fu/\fu<=1000000){f0:FnD}(hf0:fs[main]?=some f0){R:Rs}(hR:EndsM fu (funsD fs) (initM (grow f0.body)) R):
  APure Tryz.prog Γc 18 [.agg [.sl 3 (fs.map encF),int (main:Int)],.one (int fu)] (resF R):=by
 have hfl:=h.l
 have hfr:=Q88 (h.b f0 (List.mem_of_getElem? hf0))
 have hwh:=Qep h.fnsU hfu MoreU.no hfr (RunInv.no h.fnsU) (Qgs hfr) hR
 intro ou
 refine AFn.walk 53 tabOk Tryz.func18 rfl (by kernel_rfl) rfl rfl fun hou=>?_
 refine zA ?_
 refine ACode.grow 2 7 97 2 rfl rfl ?_
 refine ACode.loopR hΓc (α:=Nat) (fun j=>[(16,.one (int j)),(15,.one (int (fs.map encF).length)),(14,.one (.sl 3 (fs.map encF))),(7,.one (.ptr (.l 2) 0)),(4,.one (.ptr (.l 1) 0)),(2,.one (.ptr (.l 0) 0)),(6,.one (int 0)),(5,.one (int 0))])
  (fun j=>⟨4,[(3,.tok 97 2 j),(2,.cells [nilPE,nilPE,.lit .nilIface,nilPE,nilS,int 0,int fu,.gs 2 ((funsD (fs.take j)).map cFun) (.l 3)]),(1,.cells [nilS,int 0,int 0]),(0,.cells [.sl 3 (fs.map encF),int (main:Int)])],ou⟩) (fun m j=>j<=fs.length/\m=fs.length - j) (a0:=0) (ρ:=_root_.id) ⟨by omega,rfl⟩
  (LessR.of rfl zFS (by simp) ?_ rfl rfl hou) fun m j hj=>?_
 ·repeat' first|exact LoSub.nil|refine zlc ?_|refine zld ?_ ?_|rfl
  all_goals (simp[AObj.ren,renL,AC.ren];rfl)
 obtain⟨hjl,rfl⟩:=hj
 refine zA ?_
 refine ACode.cond rfl (fun hb2=>?_) (fun hb2=>?_)
 ·have hlt:j < fs.length:=by simpa using hb2
  obtain⟨x,hx⟩:=Q01 hlt
  have hxb:=h.b x (List.mem_of_getElem? hx)
  have t1:=Q4q hxb.b
  have hgr:=Qbp hΓc x.body hxb.okb.eo t1.k t1.ne
  have hjl2:((funsD (fs.take j)).map cFun).length=j:=by simp[Q73];omega
  refine zA ?_
  refine zS (zIA rfl rfl rfl (by omega) (Q06 hx)) ?_
  refine zA ?_
  refine ACode.drawXH (va:=.one (.gs 2 ((funsD (fs.take j)).map cFun++[cFun (funD x)]) (.l 5))) (σ1:=((((St.mk 4 [(3,.tok 97 2 j),(2,.cells [nilPE,nilPE,.lit .nilIface,nilPE,nilS,int 0,int fu,.gs 2 ((funsD (fs.take j)).map cFun) (.l 3)]),(1,.cells [nilS,int 0,int 0]),(0,.cells [.sl 3 (fs.map encF),int (main:Int)])] ou).push (.cells (ti36.zero.map .lit))).set (.l 4) (.cells (encF x))).set (.l 3) .dead).push (.tok 97 2 ((funsD (fs.take j)).map cFun++[cFun (funD x)]).length))
   tabOk 13 12 [(9,.one (.box (cTr (grow x.body))))] follows (by kernel_rfl) rfl rfl rfl rfl rfl rfl rfl ?_ ?_ ?_ ?_
  ·refine HStep.plain rfl (AStep.append (s:=2) (es:=(funsD (fs.take j)).map cFun) (news:=[cFun (funD x)]) (ti:=ti70) (σ:=((St.mk 4 [(3,.tok 97 2 j),(2,.cells [nilPE,nilPE,.lit .nilIface,nilPE,nilS,int 0,int fu,.gs 2 ((funsD (fs.take j)).map cFun) (.l 3)]),(1,.cells [nilS,int 0,int 0]),(0,.cells [.sl 3 (fs.map encF),int (main:Int)])] ou).push (.cells (ti36.zero.map .lit))).set (.l 4) (.cells (encF x))) tabOk rfl rfl rfl rfl rfl rfl (Base.gs' _ 97 2 ((funsD (fs.take j)).map cFun) (.l 3) rfl hjl2.symm) (.sl _ _) rfl ?_ ?_)
   ·rw[hjl2];show (j+1) * 32<=_;omega
   ·rw[hjl2];show j+1<=_;omega
  ·exact .call hΓc hgr hou (by simp) rfl rfl rfl rfl rfl rfl .nil
  ·exact .call hΓc hgr hou (by simp) rfl rfl rfl rfl rfl rfl .nil
  refine zM ?_
  refine cInv ⟨fs.length - (j+1),j+1,fun k=>if k=3 then 5 else k,by omega,⟨by omega,rfl⟩,LessR.of rfl zFS (by simp) ?_ rfl rfl hou⟩
  repeat' first|exact LoSub.nil|refine zlc ?_|refine zld ?_ ?_|rfl
  ·simp only[AObj.ren,List.length_append,hjl2];rfl
  ·rw[Q86 hx];simp only[AObj.ren,renL,AC.ren,Q9y];rw[List.map_append];rfl
 have hlt:j=fs.length:=by simp at hb2;omega
 subst hlt
 rw[List.take_length]
 refine zA ?_
 refine ACode.wkObj (.l 2) rfl (cs':=[nilPE,nilPE,.lit .nilIface,nilPE,nilS,int 0,int fu,.sl 2 ((funsD fs).map cFun)]) (fun w C xs h=>(show WkL _ _ from .cons (.refl _) (.cons (.refl _) (.cons (.refl _) (.cons (.refl _) (.cons (.refl _) (.cons (.refl _) (.cons (.refl _) (.cons (.gsE rfl) .nil)))))))) w C xs h) ?_
 refine ACode.drawX tabOk 12 [(7,.one (.box (cFun (funD f0))))] follows (by kernel_rfl) rfl rfl rfl rfl ?_ ?_
 ·exact .step rfl (zHP (zIA rfl rfl rfl (Int.natCast_nonneg main) (Qd7 hf0))) .nil
 repeat ((fail_if_success ((with_reducible refine oj ?_);refine AOps.atDst 49 rfl ?_));first|refine zO ?_)
 refine AOps.growO 2 4 3 1 rfl rfl ?_
 refine AOps.callR [.l 2,.l 4] [.one (.ptr (.o 0) 0)] [.cells (mC (.box (cTr (grow f0.body))) nilPE (.lit .nilIface) nilPE [] 0 fu ⟨.sl 2 ((funsD fs).map cFun),1⟩),.tok 3 1 0] hΓcF rfl rfl rfl rfl rfl rfl ?_ ?_ ?_ ?_ ?_ hwh ?_
 ·rfl
 ·simp[inO]
 ·simp
 ·refine⟨?_,rfl,trivial⟩
  simp only[AObj.sub,mC,subL,AC.sub,nameOf,List.map_nil,subS]
  rw[Q1m _ _ (by simp),Q4v _ _ (Q49 _ _)]
  rfl
 ·simp[inO,mC]
  exact Q49 _ _
 intro r ou' hq
 obtain⟨rfl,rfl⟩:=hq
 refine⟨[.dead,.dead],rfl,rfl,by simp,Q67 _ _,?_⟩
 rw[show FV.sub (nameOf [.l 2,.l 4]) (resF R)=resF R from FV.sub_pure _ _ (Q67 _ _)]
 refine zA ?_
 exact APure.fin rfl (WkF.ofEq rfl) (Q67 _ _) hou rfl
theorem Q77{fu:Int}{fs:List FnD}{main:Nat}(h:PrgOk fs main)(hfu:1<=fu/\fu<=1000000){f0:FnD}(hf0:fs[main]?=some f0){R:Rs}(hR:EndsM fu (funsD fs) (initM (grow f0.body)) R):
  APure Tryz.prog Γc 7 [.agg [.sl 3 (fs.map encF),int (main:Int)],.one (int fu)] (resF R):=by
 intro ou
 refine AFn.walk 27 tabOk Tryz.func7 rfl (by kernel_rfl) rfl rfl fun hou=>?_
 refine zA ?_
 refine zca hΓc (Q78 fs main h) hou ?_
 refine zM ?_
 have hf1:decide (fu < 1)=false:=by simp;omega
 refine AOps.wk 16 rfl (y:=.one (.lit (.bool false))) (.ofEq (by show FV.one (.lit (.bool (decide (fu < 1))))=_;rw[hf1])) ?_
 refine zM ?_
 refine ACode.cond rfl (fun hb=>absurd (show 1000000 < fu by simpa using hb) (by omega)) (fun _=>?_)
 refine zM ?_
 refine zca hΓc (Qaq h hfu hf0 hR) hou ?_
 refine zM ?_
 exact APure.fin rfl (WkF.ofEq rfl) (Q67 _ _) hou rfl
theorem Qgw{fs:List FnD}{main:Nat}(h:PrgOk fs main){fu:Int}(h1:fu < 1):
  APure Tryz.prog Γc 7 [.agg [.sl 3 (fs.map encF),int (main:Int)],.one (int fu)] (resF { Q1p with err:=4 }):=by
 intro ou
 refine AFn.walk 27 tabOk Tryz.func7 rfl (by kernel_rfl) rfl rfl fun hou=>?_
 refine zA ?_
 refine zca hΓc (Q78 fs main h) hou ?_
 refine zM ?_
 have hf1:decide (fu < 1)=true:=by simpa using h1
 refine AOps.wk 16 rfl (y:=.one (.lit (.bool true))) (.ofEq (by show FV.one (.lit (.bool (decide (fu < 1))))=_;rw[hf1])) ?_
 refine zM ?_
 exact APure.fin rfl (WkF.tup (.cons (.agg (.cons (.nilS 1) (.cons (.refl _) (.cons (.refl _) .nil)))) (.cons (.refl _) (.cons (.refl _) .nil)))) (by simp[resF,Q1p]) hou rfl
theorem Qiq{fs:List FnD}(hfl:fs.length<=1048576)(hb:∀f∈fs,f.params.length<=1099511627776/\BodyK f.body){main:Int}(h:¬∃mn:Nat,main=mn/\PrgOk fs mn)(fu:Int)(ou:Outer):
  AFn Tryz.prog Γc 7 [.agg [.sl 3 (fs.map encF),int main],.one (int fu)] ou (fun r ou'=>(∃k:Int,k≠0/\r=resF { Q1p with err:=k })/\ou'=ou):=by
 refine AFn.walk 27 tabOk Tryz.func7 rfl (by kernel_rfl) rfl rfl fun hou=>?_
 refine zA ?_
 refine AOps.call1 hΓc rfl rfl rfl rfl rfl rfl rfl (by simp[idsF]) hou (Qir fs hfl hb main ou) fun r ou' hq _ how=>?_
 obtain⟨⟨k,rfl,hk⟩,rfl⟩:=hq
 have hk0:k≠0:=fun h0=>h (hk h0)
 refine zM ?_
 refine ACode.cond rfl (fun _=>?_) (fun hb=>absurd (by simpa using hb) hk0)
 refine zM ?_
 exact AFn.fin' rfl (WkF.tup (.cons (.agg (.cons (.nilS 1) (.cons (.refl _) (.cons (.refl _) .nil)))) (.cons (.refl _) (.cons (.refl _) .nil)))) (by simp[resF,Q1p]) hou ⟨⟨k,hk0,rfl⟩,rfl⟩
end Go.Proofs.YtkgjldchcbfpnaaGreatDoor
namespace Go.CoreX
theorem EndsM.pos{fu:Int}{fns:List Fun}{t:Tr}{R:Rs}(h:EndsM fu fns (initM t) R)(he:R.err=0):0 < R.steps:=by
 refine Int.not_le.1 fun hn=>?_
 have h0:=h.fuel (n:=0) he hn
 have h1:EndsM 0 fns (initM t) Q1p:=⟨1,by simp[goM,Q0a,initM]⟩
 have:=EndsM.det h0 h1
 rw[this]at he
 cases he
end Go.CoreX
namespace Go.Proofs.YtkgjldchcbfpnaaGreatDoor
open Go Go.Abs Go.CoreX
theorem Qbq(fs:List FnD)(main:Int)(hs:bFns fs<=1048576):APure Tryz.prog Γc 3 [.agg [.sl 3 (fs.map encF),int main]] (.one (.lit (.bool true))):=by
 obtain⟨hfl,hb⟩:=Qfm hs
 intro ou
 refine AFn.walk 63 tabOk Tryz.func3 rfl (by kernel_rfl) rfl rfl fun hou=>?_
 refine zM ?_
 by_cases hv:∃mn:Nat,main=mn/\PrgOk fs mn
 ·obtain⟨mn,rfl,hp⟩:=hv
  obtain⟨f0,hf0,_⟩:=hp.m
  obtain⟨R,hR⟩:=EndsM.total (fu:=3000) (fns:=funsD fs) (m:=initM (grow f0.body)) (by simp[initM])
  refine zca hΓc (Q77 hp (by omega) hf0 hR) hou ?_
  refine zM ?_
  by_cases he:R.err=0
  ·refine ACode.cond rfl (fun hb=>absurd he (by simpa using hb)) (fun _=>?_)
   have hst:=hR.pos he
   have hle:=(hR.le he (by simp[initM])).2
   have hR2:=hR.fuel (n:=R.steps) he (Int.le_refl _)
   have hout:R.out.length<=1048576:=by
    obtain⟨g,r,hg,hr⟩:=Qd2 hR
    rw[←hr]
    exact Q71 hg (by simp[initM])
   have hlast:∃k:Int,k≠0/\APure Tryz.prog Γc 7 [.agg [.sl 3 (fs.map encF),int (mn:Int)],.one (int (R.steps - 1))] (resF { Q1p with err:=k }):=by
    by_cases h1:R.steps - 1 < 1
    ·exact⟨4,by decide,Qgw hp h1⟩
    ·have h2:=hR.less (n:=R.steps - 1) he (by omega) (by simp[initM];omega) (by omega)
     exact⟨13,by decide,Q77 hp (by omega) hf0 h2⟩
   obtain⟨k,hk,hl⟩:=hlast
   refine zM ?_
   refine zca hΓc (Q77 hp (by omega) hf0 hR2) hou ?_
   refine zM ?_
   refine zca hΓc hl hou ?_
   refine zM ?_
   refine zca hΓc Q4p hou ?_
   repeat ((fail_if_success ((with_reducible refine oj ?_);refine AOps.atDst 44 rfl ?_));first|refine zO ?_)
   refine AOps.wk 43 rfl (y:=.one (.lit (.bool true))) (.ofEq (by simp;omega)) ?_
   repeat ((fail_if_success ((with_reducible refine oj ?_);refine AOps.atDst 48 rfl ?_));first|refine zO ?_)
   refine AOps.wk 47 rfl (y:=.one (.lit (.bool true))) (.ofEq (by simp[he])) ?_
   repeat ((fail_if_success ((with_reducible refine oj ?_);refine AOps.atDst 53 rfl ?_));first|refine zO ?_)
   refine AOps.wk 52 rfl (y:=.one (.lit (.bool true))) (.ofEq (by simp)) ?_
   refine zM ?_
   refine AOps.callC hΓc (Qbn R R hout) rfl rfl rfl rfl rfl rfl rfl hou (by simp[resA]) ?_
   repeat ((fail_if_success ((with_reducible refine oj ?_);refine AOps.atDst 58 rfl ?_));first|refine zO ?_)
   refine AOps.wk 57 rfl (y:=.one (.lit (.bool true))) (.ofEq (by simp)) ?_
   repeat ((fail_if_success ((with_reducible refine oj ?_);refine AOps.atDst 62 rfl ?_));first|refine zO ?_)
   refine AOps.wk 61 rfl (y:=.one (.lit (.bool true))) (.ofEq (by simp[hk])) ?_
   refine zM ?_
   exact APure.fin rfl (WkF.ofEq rfl) (by simp) hou rfl
  ·refine ACode.cond rfl (fun _=>?_) (fun hb=>absurd (by simpa using hb) he)
   have h0:R=Q1p:=hR.err.resolve_right he
   subst h0
   refine zM ?_
   refine zca hΓc Q4p hou ?_
   refine zM ?_
   exact APure.fin rfl (WkF.ofEq rfl) (by simp) hou rfl
 ·refine AOps.call1 hΓc rfl rfl rfl rfl rfl rfl rfl (by simp[idsF]) hou (Qiq hfl (fun f hf=>⟨(hb f hf).1,.ofB (hb f hf).2⟩) hv 3000 ou) fun r ou' hq _ how=>?_
  obtain⟨⟨k,hk,rfl⟩,rfl⟩:=hq
  refine zM ?_
  refine ACode.cond rfl (fun _=>?_) (fun hb=>absurd (by simpa using hb) hk)
  refine zM ?_
  refine zca hΓc Q4p hou ?_
  refine zM ?_
  exact APure.fin rfl (WkF.ofEq rfl) (by simp) hou rfl
end Go.Proofs.YtkgjldchcbfpnaaGreatDoor
