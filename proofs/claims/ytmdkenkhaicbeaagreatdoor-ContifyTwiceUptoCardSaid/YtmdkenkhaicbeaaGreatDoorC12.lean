/- contify.Locals, walked. -/
import Derived.Test.YtmdkenkhaicbeaaGreatDoorC11
set_option maxRecDepth 10000
set_option linter.unusedVariables false
set_option linter.unusedSimpArgs false
namespace Go.CoreX
def locL (l:List (Tr×Ex)):List Int:=l.flatMap fun t=>if Q2s t.1=true then [t.2.kids.getD 0 0]else []
theorem Qcu(l r:List (Tr×Ex)):locL (l++r)=locL l++locL r:=by simp[locL]
theorem Qct:∀l:List (Tr×Ex),(locL l).length<=l.length
 |[]=>by simp[locL]
 |t::l=>by
  have:=Qct l
  rw[show t::l=[t]++l from rfl,Qcu,List.length_append,List.length_append]
  have h1:(locL [t]).length<=1:=by simp only[locL,List.flatMap_cons,List.flatMap_nil,List.append_nil];split <;> simp
  simp only[List.length_cons,List.length_nil];omega
def locE (e:List Ex):List Int:=locL ((growL e).zip e)
theorem Qfj(e:List Ex)(x:Ex):locE (e++[x])=locE e++(if Q2s (Q1f (growL e) x)=true then [x.kids.getD 0 0]else []):=by
 unfold locE
 rw[Q11,List.zip_append (by rw[Q0r]),Qcu]
 simp[locL]
theorem Qhw(e:List Ex):(locE e).length<=e.length:=by
 have:=Qct ((growL e).zip e)
 rw[List.length_zip,Q0r,Nat.min_self]at this
 exact this
end Go.CoreX
namespace Go.Proofs.YtmdkenkhaicbeaaGreatDoor
open Go Go.Abs Go.CoreX
set_option maxHeartbeats 1000000 in
theorem Qgz(e:List Ex)(he:okB e)(hck:check e=0):APure Tryz.prog Γc 55 [.one (.sl 5 (e.map cEx))] (.tup [.one (.sl 1 ((locE e).map cI)),.one (int 0)]):=by
 have t1:=Q0s hck
 have hin:=t1.k
 have hel:=he.eo.l
 obtain⟨q1,_,_⟩:=(Q1s _).1 (Q3c hck).1
 have hTr:∀k,k < e.length->TrG (Q2e e k):=up_ind t1 (P:=TrG) ⟨he.t t1.k t1.ne,by rw[cntE t1];omega,Q5x hck⟩ fun t s h hs=>h.kid hs
 intro ou
 refine AFn.walk 73 tabOk Tryz.func55 rfl (by kernel_rfl) rfl rfl fun hou=>?_
 refine zA ?_
 refine zca hΓc (Q49 e he) hou ?_
 rw[hck]
 refine zA ?_
 have hb:ti68.bytes * (e.map cEx).length<=281474976710656:=by simp;show 8 * _<=_;omega
 have hb2:(e.map cEx).length<=281474976710656:=by simp;omega
 refine zS (AStep.makeArr tabOk rfl rfl rfl rfl rfl rfl rfl rfl hb hb2) ?_
 refine zA ?_
 refine ACode.growS 6 3 1 rfl ?_
 refine ACode.loopR hΓc (α:=Nat) (fun j=>[(6,.one (.gs 1 ((locE (e.take j)).map cI) (.l 1))),(22,.one (int j)),(21,.one (int (e.map cEx).length)),(20,.one (.sl 5 (e.map cEx))),(5,.one (.arr (.l 0) 1 0 (e.map cEx).length (e.map cEx).length))])
  (fun j=>⟨2,[(1,.tok 3 1 ((locE (e.take j)).map cI).length),(0,.cells (Q18 (growL (e.take j)) (e.map cEx).length))],ou⟩) (fun m j=>j<=e.length/\m=e.length - j) (a0:=0) (ρ:=id) ⟨by omega,rfl⟩
  (LessR.of rfl (FrSub.consGs rfl rfl (by simp) zFS) (by simp) zLO rfl rfl hou) fun m j hj=>?_
 obtain⟨hjl,rfl⟩:=hj
 obtain⟨L,hL⟩:∃L,L=locE (e.take j):=⟨_,rfl⟩
 have hLl:L.length<=4096:=by rw[hL];have:=Qhw (e.take j);simp at this;omega
 rw[←hL]
 refine zA ?_
 refine ACode.cond rfl (fun hb2=>?_) (fun hb2=>?_)
 ·have hlt:j < e.length:=by simpa using hb2
  obtain⟨x,hx⟩:=Q00 hlt
  have hxo:=he.eo.x x (List.mem_of_getElem? hx)
  have hxk:=hxo.k
  have hxin:=hin j x hx
  have hgl:(growL (e.take j)).length=j:=by rw[Q0r];simp;omega
  have hN:Q2e e j=Q1f (growL (e.take j)) x:=by
   have h1:=Q4z (e.take j) (e.drop (j+1)) x
   have h2:e=e.take j++x::e.drop (j+1):=by
    conv=>lhs;rw[←List.take_append_drop j e]
    congr 1
    rw[List.drop_eq_getElem_cons hlt]
    congr 1
    exact Option.some.inj ((List.getElem?_eq_getElem hlt).symm.trans hx)
   rw[←h2]at h1
   rw[←h1]
   unfold Q2e
   congr 1
   simp;omega
  have hTx:TrG (Q1f (growL (e.take j)) x):=by rw[←hN];exact hTr j hlt
  have hloc:=Qcs hΓc hΓcF _ hTx
  refine zA ?_
  refine zS (zIA rfl rfl rfl (by omega) (Q08 hx)) ?_
  refine zA ?_
  refine ACode.grow 3 3 68 1 rfl rfl ?_
  refine ACode.loopR hΓc (α:=Nat) (fun i=>[(6,.one (.gs 1 (L.map cI) (.l 1))),(40,.one (int i)),(39,.one (int (x.kids.map cI).length)),(38,.one (.sl 1 (x.kids.map cI))),(9,.one (.ptr (.l 3) 0)),(8,.one (.ptr (.l 2) 0)),(7,.one (int j)),(22,.one (int j)),(21,.one (int (e.map cEx).length)),(20,.one (.sl 5 (e.map cEx))),(5,.one (.arr (.l 0) 1 0 (e.map cEx).length (e.map cEx).length))])
   (fun i=>⟨5,[(4,.tok 68 1 i),(3,.cells [int x.op,int x.n,.sl 1 (x.binds.map cI),.gs 1 ((kidsT (growL (e.take j)) (x.kids.take i)).map cB) (.l 4),.sl 2 (x.alts.map cAlt)]),(2,.cells (cEx x)),(1,.tok 3 1 (L.map cI).length),(0,.cells (Q18 (growL (e.take j)) (e.map cEx).length))],ou⟩)
   (fun m i=>i<=x.kids.length/\m=x.kids.length - i) (a0:=0) (ρ:=id) ⟨by omega,rfl⟩ (LessR.of rfl (FrSub.consGs rfl rfl (by simp) zFS) (by simp) ?_ rfl rfl hou) fun m i hi=>?_
  ·repeat' first|exact LoSub.nil|refine zlc ?_|refine zld ?_ ?_|rfl
   all_goals (simp[AObj.ren,renL,AC.ren,kidsT];try rfl)
  obtain⟨hil,rfl⟩:=hi
  refine zA ?_
  refine ACode.cond rfl (fun hb3=>?_) (fun hb3=>?_)
  ·have hlt2:i < x.kids.length:=by simpa using hb3
   obtain⟨k,hk⟩:=Q00 hlt2
   have hkb:=hxin k (List.mem_of_getElem? hk)
   obtain⟨k',rfl⟩:∃k':Nat,k=k':=⟨k.toNat,by omega⟩
   obtain⟨tk,htk⟩:=Q00 (l:=growL (e.take j)) (i:=k') (by omega)
   have htd:(growL (e.take j)).getD (k':Int).toNat default=tk:=by rw[Int.toNat_natCast,List.getD_eq_getElem?_getD,htk];rfl
   have hks:=Q89 (ts:=growL (e.take j)) hk
   rw[htd]at hks
   have hkl:((kidsT (growL (e.take j)) (x.kids.take i)).map cB).length=i:=by simp[kidsT];omega
   refine zA ?_
   refine zS (zIA rfl rfl rfl (by omega) (Q08 hk)) ?_
   refine zA ?_
   refine ACode.drawXH (va:=.one (.gs 1 ((kidsT (growL (e.take j)) (x.kids.take i)).map cB++[cB tk]) (.l 5))) (σ1:=((St.mk 5 [(4,.tok 68 1 i),(3,.cells [int x.op,int x.n,.sl 1 (x.binds.map cI),.gs 1 ((kidsT (growL (e.take j)) (x.kids.take i)).map cB) (.l 4),.sl 2 (x.alts.map cAlt)]),(2,.cells (cEx x)),(1,.tok 3 1 (L.map cI).length),(0,.cells (Q18 (growL (e.take j)) (e.map cEx).length))] ou).set (.l 4) .dead).push (.tok 68 1 ((kidsT (growL (e.take j)) (x.kids.take i)).map cB++[cB tk]).length))
    tabOk 11 10 [(7,.one (.ptr (.l 0) k')),(8,.one (.box (cTr tk)))] follows (by kernel_rfl) rfl rfl rfl rfl rfl rfl rfl ?_ ?_ ?_ ?_
   ·refine HStep.plain rfl (AStep.append (s:=1) (es:=(kidsT (growL (e.take j)) (x.kids.take i)).map cB) (news:=[cB tk]) (ti:=ti72) (σ:=(St.mk 5 [(4,.tok 68 1 i),(3,.cells [int x.op,int x.n,.sl 1 (x.binds.map cI),.gs 1 ((kidsT (growL (e.take j)) (x.kids.take i)).map cB) (.l 4),.sl 2 (x.alts.map cAlt)]),(2,.cells (cEx x)),(1,.tok 3 1 (L.map cI).length),(0,.cells (Q18 (growL (e.take j)) (e.map cEx).length))] ou)) tabOk rfl rfl rfl rfl rfl rfl (Base.gs' _ 68 1 ((kidsT (growL (e.take j)) (x.kids.take i)).map cB) (.l 4) rfl hkl.symm) (.sl _ _) rfl ?_ ?_)
    ·rw[hkl];show (i+1) * 8<=_;omega
    ·rw[hkl];show i+1<=_;omega
   ·refine .step rfl (zHP (idxI tabOk rfl rfl rfl rfl rfl rfl rfl (by simp;omega))) ?_
    exact .step rfl (zHP (zLD rfl rfl rfl (Q32 htk))) .nil
   ·refine .step rfl (zHP (idxI tabOk rfl rfl rfl rfl rfl rfl rfl (by simp;omega))) ?_
    exact .step rfl (zHP (zLD rfl rfl rfl (Q32 htk))) .nil
   refine zM ?_
   refine cInv ⟨x.kids.length - (i+1),i+1,fun k=>if k=4 then 5 else k,by omega,⟨by omega,rfl⟩,LessR.of rfl (FrSub.consGs rfl rfl (by simp) zFS) (by simp) ?_ rfl rfl hou⟩
   repeat' first|exact LoSub.nil|refine zlc ?_|refine zld ?_ ?_|rfl
   ·simp only[AObj.ren,List.length_append,hkl];rfl
   ·rw[hks];simp only[AObj.ren,renL,AC.ren,Q5f,Qb8,Q4q];rw[List.map_append];rfl
  have hlt2:i=x.kids.length:=by simp at hb3;omega
  subst hlt2
  rw[List.take_length]
  repeat ((fail_if_success ((with_reducible refine oj ?_);refine AOps.atDst 58 rfl ?_));first|refine zO ?_)
  refine AOps.freeze1 (.l 3) 9 rfl rfl ?_
  refine AOps.wk 9 rfl (y:=.one (.box (cTr (Q1f (growL (e.take j)) x)))) (.one (Wk.box ?_)) ?_
  ·rw[Qa3]
   exact .cons (.refl _) (.cons (.refl _) (.cons (.refl _) (.cons (.gsE (Q19 _).symm) (.cons (.refl _) .nil))))
  obtain⟨T,hT⟩:∃T,T=Q1f (growL (e.take j)) x:=⟨_,rfl⟩
  rw[←hT]at hloc ⊢
  have hTb:T.binds=x.binds:=by rw[hT];rfl
  refine zA ?_
  refine zS (idxI tabOk rfl rfl rfl rfl rfl rfl rfl (by simp;omega)) ?_
  refine AOps.storeOwn tabOk rfl rfl rfl rfl rfl rfl rfl rfl (by rw[Q87 (by simp[hgl];omega)];simp;omega) ?_
  have hst:=Q86 (ts:=growL (e.take j)) (n:=(e.map cEx).length) (by simp[hgl];omega) T
  rw[hgl,hT,←Q11,←Q0q hx,←hT]at hst
  rw[hst]
  have hL2:locE (e.take (j+1))=L++(if Q2s T=true then [x.kids.getD 0 0]else []):=by
   rw[Q0q hx,Qfj,←hL,←hT]
  refine zA ?_
  refine zca hΓc hloc hou ?_
  refine zA ?_
  refine ACode.cond rfl (fun hbl=>?_) (fun hbl=>?_)
  ·have hl:Q2s T=true:=by simpa using hbl
   rw[if_pos hl]at hL2
   have hsn:=Q1k hTx.sh
   rw[←hT,(Q6z hl).1]at hsn
   have hkl:x.kids.length=2:=by have:=hsn.lett.1;rw[hT]at this;simpa[Q1f]using this
   obtain⟨a,b,hab⟩:=lst2 hkl
   rw[hab]at hL2
   have hg0:(x.kids.map cI)[(0:Int).toNat]?=some (cI a):=by rw[hab];rfl
   refine zA ?_
   refine zS (zIA rfl rfl rfl (by decide) hg0) ?_
   refine zA ?_
   refine AOps.app tabOk rfl rfl rfl rfl rfl rfl rfl rfl rfl (Base.gs' _ 3 1 _ _ rfl rfl) (.sl _ _) rfl ?_ ?_ ?_
   ·rw[List.length_map];show (L.length+1) * 8<=_;omega
   ·rw[List.length_map];show L.length+1<=_;omega
   have hL3:(locE (e.take (j+1))).map cI=L.map cI++[cI a]:=by rw[hL2,List.map_append];rfl
   refine zM ?_
   refine cInv ⟨e.length - (j+1),j+1,fun q=>if q=1 then 5 else q,by omega,⟨by omega,rfl⟩,?_⟩
   simp only[hL3]
   exact LessR.of rfl (FrSub.consGs rfl rfl (by rw[←hL3];simp) zFS) (by rw[←hL3];simp) zLO rfl rfl hou
  ·have hl:¬Q2s T=true:=by simpa using hbl
   rw[if_neg hl,List.append_nil]at hL2
   refine zM ?_
   refine cInv ⟨e.length - (j+1),j+1,id,by omega,⟨by omega,rfl⟩,?_⟩
   simp only[hL2]
   exact LessR.of rfl (FrSub.consGs rfl rfl (by simp) zFS) (by simp) zLO rfl rfl hou
 have hlt:j=e.length:=by simp at hb2;omega
 subst hlt
 rw[List.take_length]at hL
 refine zA ?_
 exact APure.fin (r':=.tup [.one (.sl 1 ((locE e).map cI)),.one (int 0)]) rfl (WkF.tup (.cons (.one (.gsE (by rw[hL]))) (.cons (.refl _) .nil))) (by simp) hou rfl
end Go.Proofs.YtmdkenkhaicbeaaGreatDoor
namespace Go.CoreX
def ctT:Tr:=.mk 4 0 [1] [.mk 4 0 [2] [.mk 2 0 [3] [.mk 8 0 [] [.mk 0 3 [] [] [],.mk 1 1 [] [] []] []] [],.mk 3 0 [] [.mk 0 2 [] [] [],.mk 1 2 [] [] []] []] [],.mk 0 1 [] [] []] []
def ctE:List Ex:=listT [] ctT
def ctU:Tr:=.mk 4 0 [4] [.mk 2 0 [1] [.mk 0 1 [] [] []] [],.mk 4 0 [2] [.mk 2 0 [3] [.mk 3 0 [] [.mk 0 4 [] [] [],.mk 8 0 [] [.mk 0 3 [] [] [],.mk 1 1 [] [] []] []] []] [],.mk 3 0 [] [.mk 0 2 [] [] [],.mk 1 2 [] [] []] []] []] []
theorem Qif:check ctE=0:=by decide +kernel
theorem Qgi:check (listT [] ctU)=0:=by decide +kernel
theorem ct_run:Q1d mxT ctE=(listT [] ctU,0):=by kernel_rfl
theorem ct_loc:(locE ctE).length=1:=by decide +kernel
end Go.CoreX
namespace Go.Proofs.YtmdkenkhaicbeaaGreatDoor
open Go Go.Abs Go.CoreX
variable {Γ:List (Nat×List AC)}
theorem cf_okB(m:Tr->Int):∀(k:Nat)(E:List Ex),okB E->check E=0->okB (cfIt m k E)/\check (cfIt m k E)=0
 |0,E,h,hc=>⟨h,hc⟩
 |k+1,E,h,hc=>by
  unfold cfIt
  split
  ·exact⟨h,hc⟩
  ·rename_i t ht
   split
   ·exact⟨h,hc⟩
   ·rename_i hn
    refine cf_okB m k _ ?_ (by simpa using hn)
    have t2:=Q0s hc
    obtain⟨q1,_,_⟩:=(Q1s _).1 (Q3c hc).1
    have hp:=Qgc _ _ _ (Q5h _ (h.t t2.k t2.ne)) ht
    have hn2:=Qgd _ _ _ ht
    have h1:=Q3v (grow E) []
    have h2:=Q4w t2
    simp only[List.length_nil]at h1
    exact Q4u hp (by omega)
theorem okB_ct:okB ctE:=Q4u (Q5h _ (by simp[ctT,okT,okTs])) (by simp[ctT,cntN,cntNs])
theorem okB_ctU:okB (listT [] ctU):=Q4u (Q5h _ (by simp[ctU,okT,okTs])) (by simp[ctU,cntN,cntNs])
theorem Qic:allT (FragL false) ctU:=
 ⟨Q1b rfl,⟨Q1b rfl,⟨Q1b rfl,trivial⟩,trivial⟩,⟨Q1b rfl,⟨Q1b rfl,⟨Q1b rfl,⟨Q1b rfl,trivial⟩,⟨Q1b rfl,⟨Q1b rfl,trivial⟩,⟨Q1b rfl,trivial⟩,trivial⟩,trivial⟩,trivial⟩,⟨Q1b rfl,⟨Q1b rfl,trivial⟩,⟨Q1b rfl,trivial⟩,trivial⟩,trivial⟩,trivial⟩
theorem run_ct:RunsTo false 3000 (listT [] ctU) ⟨.rt (.word 3),[],[],13,[]⟩ (.word 3):=
 ⟨Qgi,by rw[Q28];exact Qic,by omega,by rw[Q28];exact⟨100,by kernel_rfl,fun h=>by cases h⟩,by simp,by decide⟩
theorem Qhf{e:List Ex}{mf:Ms}{vf:Vl}(he:okB e)(h:RunsTo false 3000 e mf vf):APure Tryz.prog Γc 42 [.one (.sl 5 (e.map cEx))] (.tup [.agg [.sl 1 (mf.out.map cI),int 0,int (lastV vf)],.one (.lit (.bool true))]):=by
 have hR:=Run_ok MoreC.no he h
 intro ou
 refine AFn.walk 16 tabOk Tryz.func42 rfl (by kernel_rfl) rfl rfl fun hou=>?_
 refine zA ?_
 refine zca hΓc hR hou ?_
 refine zM ?_
 exact APure.fin rfl (WkF.ofEq rfl) (by simp) hou rfl
theorem Qed(e f:List Ex)(hl:e.length≠f.length):APure Tryz.prog Γ 56 [.one (.sl 5 (e.map cEx)),.one (.sl 5 (f.map cEx))] (.one (.lit (.bool false))):=by
 intro ou
 refine AFn.walk 136 tabOk Tryz.func56 rfl (by kernel_rfl) rfl rfl fun hou=>?_
 refine zA ?_
 refine ACode.cond rfl (fun hb=>?_) (fun hb=>absurd (by simpa using hb) (by omega))
 refine zA ?_
 exact APure.fin rfl (WkF.ofEq rfl) (by simp) hou rfl
theorem Q30:APure Tryz.prog Γc 28 [] (.one (.lit (.bool true))):=by
 have hL:=Qby hΓc ctT (by simp[ctT,okT,okTs]) (by simp[ctT,listT,Q02])
 have hR:=Qbx ctE okB_ct
 unfold CfR at hR
 rw[ct_run]at hR
 have hLo:=Qgz ctE okB_ct Qif
 have hF:=Qhf okB_ctU run_ct
 have hS:=Qed (Γ:=Γc) ctE (listT [] ctU) (by decide +kernel)
 have hN1:=N_ok (Γ:=Γc) 8 0 [.mk 0 3 [] [] [],.mk 1 1 [] [] []]
 have hB1:=B_ok (Γ:=Γc) 2 [3] [.mk 8 0 [] [.mk 0 3 [] [] [],.mk 1 1 [] [] []] []]
 have hN2:=N_ok (Γ:=Γc) 3 0 [.mk 0 2 [] [] [],.mk 1 2 [] [] []]
 have hB2:=B_ok (Γ:=Γc) 4 [2] [.mk 2 0 [3] [.mk 8 0 [] [.mk 0 3 [] [] [],.mk 1 1 [] [] []] []] [],.mk 3 0 [] [.mk 0 2 [] [] [],.mk 1 2 [] [] []] []]
 have hB3:=B_ok (Γ:=Γc) 4 [1] [.mk 4 0 [2] [.mk 2 0 [3] [.mk 8 0 [] [.mk 0 3 [] [] [],.mk 1 1 [] [] []] []] [],.mk 3 0 [] [.mk 0 2 [] [] [],.mk 1 2 [] [] []] []] [],.mk 0 1 [] [] []]
 rw[Q54]at hN1 hB1 hN2 hB2 hB3
 intro ou
 refine AFn.walk 69 tabOk Tryz.func28 rfl (by kernel_rfl) rfl rfl fun hou=>?_
 refine zA ?_
 refine zca hΓc (V_ok hΓc 3) hou ?_
 refine zca hΓc (W_ok hΓc 1) hou ?_
 refine zA ?_
 refine zca hΓc hN1 hou ?_
 refine zA ?_
 refine zca hΓc hB1 hou ?_
 refine zca hΓc (V_ok hΓc 2) hou ?_
 refine zca hΓc (W_ok hΓc 2) hou ?_
 refine zA ?_
 refine zca hΓc hN2 hou ?_
 refine zA ?_
 refine zca hΓc hB2 hou ?_
 refine zA ?_
 refine zca hΓc (V_ok hΓc 1) hou ?_
 refine zA ?_
 refine zca hΓc hB3 hou ?_
 refine zca hΓc hL hou ?_
 rw[show listT [] ctT=ctE from rfl]
 obtain⟨U,hU⟩:∃U,U=listT [] ctU:=⟨_,rfl⟩
 rw[←hU]at hR hF hS
 obtain⟨q,hq⟩:∃q,locE ctE=[q]:=lst1 ct_loc
 rw[hq]at hLo
 refine zA ?_
 refine zca hΓc hR hou ?_
 refine zA ?_
 refine zca hΓc hLo hou ?_
 refine zA ?_
 refine zca hΓc hF hou ?_
 refine zM ?_
 refine zca hΓc hS hou ?_
 refine zM ?_
 exact APure.fin rfl (WkF.ofEq rfl) (by simp) hou rfl
theorem Q7r(e:List Ex)(he:okB e):APure Tryz.prog Γc 5 [.one (.sl 5 (e.map cEx))] (.one (.lit (.bool true))):=by
 have hR:=Qbx e he
 unfold CfR at hR
 have hel:=he.eo.l
 intro ou
 refine AFn.walk 35 tabOk Tryz.func5 rfl (by kernel_rfl) rfl rfl fun hou=>?_
 refine zA ?_
 refine zca hΓc hR hou ?_
 by_cases hc:check e=0
 ·have hE:Q1d mxT e=(cfIt mxT 50 (listT [] (grow e)),0):=by unfold Q1d;rw[if_neg (by simpa using hc)]
  rw[hE]
  by_cases hl:e.length<=100
  ·have t1:=Q0s hc
   have hst:=Qaq mxT 50 (listT [] (grow e)) (by
    rw[Q28]
    have h1:=ll_cnt _ (Q5x hc)
    rw[cntE t1]at h1
    omega)
   obtain⟨hc1,T,hT⟩:=Qar mxT 50 (listT [] (grow e)) (Q5y hc) ⟨_,rfl⟩
   obtain⟨ho1,_⟩:=cf_okB mxT 50 _ (Qf8 he hc) (Q5y hc)
   obtain⟨L,hL⟩:∃L,L=cfIt mxT 50 (listT [] (grow e)):=⟨_,rfl⟩
   rw[←hL]at hst hc1 hT ho1 ⊢
   have hE2:Q1d mxT L=(L,0):=by
    unfold Q1d
    rw[if_neg (by simpa using hc1)]
    have:listT [] (grow L)=L:=by rw[hT,Q28]
    rw[this,cfIt_at hst]
   have hR2:=Qbx L ho1
   unfold CfR at hR2
   rw[hE2]at hR2
   have hS:=Same_ok L L ho1 ho1 (by simp[same,hc1,Q8v])
   repeat ((fail_if_success ((with_reducible refine oj ?_);refine AOps.atDst 18 rfl ?_));first|refine zO ?_)
   refine AOps.wk 17 rfl (y:=.one (.lit (.bool false))) (.ofEq (by simp;omega)) ?_
   refine zM ?_
   refine zca hΓc hR2 hou ?_
   refine zA ?_
   refine zca hΓc Q30 hou ?_
   refine zM ?_
   refine zca hΓc hS hou ?_
   refine zM ?_
   exact APure.fin rfl (WkF.ofEq rfl) (by simp) hou rfl
  ·repeat ((fail_if_success ((with_reducible refine oj ?_);refine AOps.atDst 18 rfl ?_));first|refine zO ?_)
   refine AOps.wk 17 rfl (y:=.one (.lit (.bool true))) (.ofEq (by simp;omega)) ?_
   refine zM ?_
   refine zca hΓc Q30 hou ?_
   refine zA ?_
   exact APure.fin rfl (WkF.ofEq rfl) (by simp) hou rfl
 ·have hE:Q1d mxT e=([],check e):=by unfold Q1d;rw[if_pos hc]
  rw[hE]
  repeat ((fail_if_success ((with_reducible refine oj ?_);refine AOps.atDst 14 rfl ?_));first|refine zO ?_)
  refine AOps.wk 13 rfl (y:=.one (.lit (.bool true))) (.ofEq (by simpa using hc)) ?_
  refine zM ?_
  refine zca hΓc Q30 hou ?_
  refine zA ?_
  exact APure.fin rfl (WkF.ofEq rfl) (by simp) hou rfl
end Go.Proofs.YtmdkenkhaicbeaaGreatDoor
