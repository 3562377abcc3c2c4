/- cps: Convert, walked. -/
import Derived.Test.YtlmokgooijbcdaaGreatDoorE7
set_option maxRecDepth 10000
set_option maxHeartbeats 4000000
set_option linter.unusedVariables false
set_option linter.unusedSimpArgs false
open Go Go.Abs Go.CoreX
variable {e:List Ex}{n b x0 x1 x2 x3 x4:Int}{t:Tr}{ws:List Int}
namespace Go.Proofs.YtlmokgooijbcdaaGreatDoor
def ordE (e:List Ex):List Ex:=listT [] (grow e)
def mdlE (e:List Ex):Mdl:=planM (ordE e) (Q1k (ordE e)) (mxT (grow e)+1)
def outE (e:List Ex):List Ex:=listT [] (Q4s (mdlE e) (cvT (mdlE e) 0 (grow e)) (mxT (grow e)+2)).1
def cvtE (e:List Ex):List Ex×Int:=
 if check e≠0 then ([],check e)else if Q59 (ordE e)=false then (ordE e,0)else if Q5c (mdlE e) (ordE e)=true then ([],2)else if check (outE e)≠0 then ([],2)else (outE e,0)
theorem Qox(he:okB e)(h:check e=0):okB (ordE e):=by have t1:=Q1t h;refine Q7a (Q81 _ (he.t t1.k t1.ne)) ?_;have h1:=Q42 (grow e) [];have h2:=Q9e t1;have h3:=he.eo.l;simp only[Z17]at h1;omega
theorem Qht(he:okB e)(hb1:∀x∈e,x.binds.length+1<=1048576)(hc:check e=0):okB (outE e):=by have hRs:=Q9v (mdlE e) (grow e) 0 (Qfc he hb1 hc) (mxT (grow e)+2);have h1:=hRs.2;rw[Q9r]at h1;have h2:=(Q7r hc).1;exact Q7a (Q81 _ hRs.1) zoy
theorem Qcc(e:List Ex)(he:okB e)(hb1:Q59 (ordE e)=true->∀x∈e,x.binds.length+1<=1048576):APure Tryz.prog Γt 14 [.one (.sl 5 (e.map cEx))] (.tup [.one (.sl 5 ((cvtE e).1.map cEx)),.one (int (cvtE e).2)]):=by
 intro ou;have hCe:=APure.t (Q9m e he);refine zwk 79 Tryz.func14 fun hou=>?_;refine zA ?_;refine zca hΓt hCe hou ?_;refine zA ?_;refine Qyl rfl (fun hb=>?_) (fun hb=>?_)
 ·have hc:check e≠0:=by simpa using hb
  have hR:cvtE e=([],check e):=by unfold cvtE;rw[if_pos hc]
  rw[hR];refine zA ?_;exact Qz0 rfl (.tup (.cons (.one (.nilS 5)) (.cons (.refl _) .nil))) zsy hou rfl
 have hc:check e=0:=by simpa using hb
 have t1:=Q1t hc;have hG:=Qqg hΓt e he.eo t1.k t1 ou;refine zA ?_;refine Qrb hΓt rfl rfl rfl rfl rfl rfl rfl zsy hou hG fun r ou1 hq Qvd Qvs=>?_;obtain⟨t,rfl,het,hpl,how,hnd,hnew,_,hold⟩:=hq;have hto:okT (erT t):=by rw[het];exact he.t t1.k t1.ne
 have hord:listT [] (erT t)=ordE e:=by rw[het];rfl
 have hco:=Qk7 hc;have hbo:=Qox he hc;have hL:=Qqe hΓt t hto hpl (by rw[hord];exact hbo.eo.l) ou1 how;rw[hord]at hL;have hcE:check (ordE e)=0:=hco;have hHe:=Qms hΓt (ordE e) hbo.eo.l;refine zA ?_;refine Qyv hΓt hL rfl rfl rfl rfl rfl rfl rfl Qvs zsy ?_;refine zA ?_;refine zca hΓt hHe Qvs ?_;cases hhe:Q59 (ordE e) with
 |false=>
  have hR:cvtE e=(ordE e,0):=by unfold cvtE;rw[if_neg (by simp[hc]),if_pos hhe]
  rw[hR];repeat ((fail_if_success ((with_reducible refine oj ?_);refine Qtz 3 rfl ?_));first|refine zO ?_)
  refine Qsy hold ?_;refine zM ?_;exact Qz0 rfl (Z46 rfl) zsy hou rfl
 |true=>
  have hFE:=FE_of hbo hcE;have hAn:=Qkg hΓt (fun _ _ h=>h) hbo hcE hFE ou1;refine zM ?_;refine Qrb hΓt rfl rfl rfl rfl rfl rfl rfl zsy Qvs hAn fun r ou2 hq Qvd Qvy=>?_;obtain⟨y,rfl,hPl,Qwl,_,hfr2⟩:=hq;obtain⟨RT,hRT⟩:∃RT,RT=Q93 (ordE e).length (Q1k (ordE e)):=⟨_,rfl⟩;obtain⟨EF,hEF⟩:∃EF,EF=effN (ordE e) RT (Q1k (ordE e)) (2 * (ordE e).length+3):=⟨_,rfl⟩;rw[←hRT,←hEF]at hPl;have hM:mdlE e=⟨fun i=>EF.eff.getD i false,fun i=>EF.imp.getD (rtOf RT i) false,fun i=>cnvN RT (Q1k (ordE e)) EF.imp i,mxT (grow e)+1⟩:=by rw[hEF,hRT];rfl
  have hpas:∀i,(mdlE e).pas i=EF.imp.getD (rtOf RT i) false:=fun i=>by rw[hM]
  have htm:Q5c (mdlE e) (ordE e)=true↔∃j x,(ordE e)[j]?=some x/\x.op=2/\(mdlE e).pas j=true/\5 < x.binds.length:=by
   unfold Q5c;rw[Z00];constructor
   ·rintro⟨⟨x,j⟩,h1,h2⟩;rw[Z24]at h1;simp only[Qzc,beq_iff_eq,decide_eq_true_eq]at h2;exact⟨j,x,h1,h2.1.1,h2.1.2,h2.2⟩
   ·rintro⟨j,x,h1,h2,h3,h4⟩;exact⟨(x,j),by rw[Z24];exact h1,by simp[h2,h3,h4]⟩
  have Qvz:∀j o,ou j=some o->ou2 j=some o:=fun j o h=>by have h1:=hold j o h;rw[Qwl j (by rw[h1];simp)];exact h1
  have hbl:=hbo.eo.l;refine zA ?_;refine Qre hΓt (α:=Nat) (fun c=>[(30,.one (int (c:Nat))),(29,.one (int ((ordE e).map cEx).length)),(28,.one (.sl 5 ((ordE e).map cEx))),(7,.one (.ptr (.o y.kp) 0)),(6,.one (.sl 5 ((ordE e).map cEx))),(5,.one (.ptr (.o t.id) 0))]) (fun c=>⟨0,[],ou2⟩)
   (fun m c=>c<=(ordE e).length/\(∀j x,j < c->(ordE e)[j]?=some x->¬(x.op=2/\(mdlE e).pas j=true/\5 < x.binds.length))/\m=(ordE e).length - c) (a0:=0) (ρ:=_root_.id) ⟨by omega,fun j x h=>by omega,rfl⟩
   (Qzw rfl zFS zsy zLO rfl rfl Qvy) fun m c hcc=>?_
  obtain⟨hcl,hno,rfl⟩:=hcc;refine zA ?_;refine Qyl rfl (fun hb2=>?_) (fun hb2=>?_)
  ·have hlt:c < (ordE e).length:=by simpa using hb2
   obtain⟨x,hx⟩:=Q00 hlt;have hps:=Qea hΓt hPl (i:=c) zoy;rw[←hpas c]at hps;have Qww:¬(x.op=2/\(mdlE e).pas c=true/\5 < x.binds.length)->∀j z,j < c+1->(ordE e)[j]?=some z->¬(z.op=2/\(mdlE e).pas j=true/\5 < z.binds.length):=fun hn j z hj hz=>by
    by_cases ej:j=c
    ·subst ej;rw[hx]at hz;cases hz;exact hn
    ·exact hno j z zoy hz
   refine zA ?_;refine zS (zIA rfl rfl rfl zoy (Q0c hx)) ?_;repeat ((fail_if_success ((with_reducible refine oj ?_);refine Qtz 39 rfl ?_));first|refine zO ?_)
   by_cases h2:x.op=2
   ·refine Qyz 38 rfl (y:=.one (.lit (.bool true))) (.ofEq (by simp[h2])) ?_;repeat ((fail_if_success ((with_reducible refine oj ?_);refine Qtz 41 rfl ?_));first|refine zO ?_)
    refine Qra rfl rfl rfl rfl rfl (AStep.callK hΓt rfl rfl rfl zsy Qvy hps) ?_;cases hpv:(mdlE e).pas c with
    |false=>
     refine zM ?_;exact cInv ⟨(ordE e).length - (c+1),c+1,_root_.id,by omega,⟨by omega,Qww (fun h=>by rw[hpv]at h;cases h.2.1),rfl⟩,Qzw rfl zFS zsy zLO rfl rfl Qvy⟩
    |true=>
     repeat ((fail_if_success ((with_reducible refine oj ?_);refine Qtz 48 rfl ?_));first|refine zO ?_)
     by_cases h5:5 < x.binds.length
     ·have hT:Q5c (mdlE e) (ordE e)=true:=htm.2 ⟨c,x,hx,h2,hpv,h5⟩;have hR:cvtE e=([],2):=by unfold cvtE;rw[if_neg (by simp[hc]),if_neg (by simp[hhe]),if_pos hT]
      rw[hR];refine Qyz 47 rfl (y:=.one (.lit (.bool true))) (.ofEq (by rw[decide_eq_true (show ((x.binds.map cI).length:Int) > 5 by rw[Z16];omega)])) ?_;repeat ((fail_if_success ((with_reducible refine oj ?_);refine Qtz 3 rfl ?_));first|refine zO ?_)
      refine AOps.lessO ⟨1,[],ou⟩ rfl (fun i o ho=>?_) ?_
      ·cases i with
       |l k=>cases ho
       |o k=>exact Qvz k o ho
      refine zM ?_;exact Qz0 rfl (.tup (.cons (.one (.nilS 5)) (.cons (.refl _) .nil))) zsy hou rfl
     ·refine Qyz 47 rfl (y:=.one (.lit (.bool false))) (.ofEq (by rw[decide_eq_false (show ¬((x.binds.map cI).length:Int) > 5 by rw[Z16];omega)])) ?_;refine zM ?_;exact cInv ⟨(ordE e).length - (c+1),c+1,_root_.id,by omega,⟨by omega,Qww (fun h=>h5 h.2.2),rfl⟩,Qzw rfl zFS zsy zLO rfl rfl Qvy⟩
   ·refine Qyz 38 rfl (y:=.one (.lit (.bool false))) (.ofEq (by simp[h2])) ?_;refine zM ?_;exact cInv ⟨(ordE e).length - (c+1),c+1,_root_.id,by omega,⟨by omega,Qww (fun h=>h2 h.1),rfl⟩,Qzw rfl zFS zsy zLO rfl rfl Qvy⟩
  ·have hce:c=(ordE e).length:=by simp at hb2;omega
   have hT:Q5c (mdlE e) (ordE e)=false:=by
    cases h:Q5c (mdlE e) (ordE e) with
    |false=>rfl
    |true=>
     obtain⟨j,x,q1,q2⟩:=htm.1 h;exact absurd q2 (hno j x (by rw[hce];exact (Z0v.1 q1).1) q1)
   have Qx1:Owns ou2 (objs t):=fun p hp=>by have h1:=how p hp;rw[Qwl p.1 (by rw[h1];simp)];exact h1
   have hmx:-1<=mxT (grow e)/\mxT (grow e)<=1048575:=⟨mxT_geC _,mxT_le 1048575 zoy _ (Qnk hc)⟩;have hMo:=Qj2 hΓt (erT t) hto;unfold MxOk at hMo;rw[het]at hMo;obtain⟨mx,hmxe⟩:∃mx,mx=mxT (grow e):=⟨_,rfl⟩;rw[←hmxe]at hMo hmx;have hLe:LendF ⟨1,[(0,.map 0 [])],ou2⟩ (.one (.ptr (.o t.id) 0)) (.one (.box (cTr (grow e)))):=by rw[←het];exact Qu6 Qx1
   refine zA ?_;refine zS (AStep.makeMap rfl) ?_;refine zA ?_;refine AOps.callS hΓt hMo (Plain.lit _) rfl rfl rfl rfl rfl rfl (.cons hLe .nil) ?_;refine zM ?_;refine Qyw [0,1,2] rfl zdy Qvy fun q hq=>⟨[(69,.one (.mp (.o q))),(65,.one (.ptr (.o t.id) 0)),(11,.one (.ptr (.o (q+2)) 0)),(10,.one (.ptr (.o (q+1)) 0)),(5,.one (.ptr (.o t.id) 0))],[],[.map 0 [],.cells [.ptr (.o y.kp) 0,.mp (.o q),int (mx+2),int (mx+2 - 1)],.cells [int 0]],.cons rfl rfl (.keepO rfl zsy (.cons rfl rfl (.cons rfl rfl (.keepO rfl zsy .nil)))),.nil,.cons rfl rfl (.cons rfl rfl (.cons rfl rfl .nil)),?_⟩;obtain⟨ou3,ho3⟩:∃ou3,ou3=ouAdd ou2 q [.map 0 [],.cells [.ptr (.o y.kp) 0,.mp (.o q),int (mx+2),int (mx+2 - 1)],.cells [int 0]]:=⟨_,rfl⟩;have h3a:ou3 q=some (.map 0 []):=by rw[ho3];exact Q0o (ou:=ou2) (k:=q) 0
   have h3b:ou3 (q+1)=some (.cells [.ptr (.o y.kp) 0,.mp (.o q),int (mx+2),int (mx+2 - 1)]):=by rw[ho3];exact Q0o (ou:=ou2) (k:=q) 1
   have h3c:ou3 (q+2)=some (.cells [int 0]):=by rw[ho3];exact Q0o (ou:=ou2) (k:=q) 2
   have hlow:∀k o,ou2 k=some o->k < q/\ou3 k=some o:=fun k o h=>by have h1:=Q4u hq h;exact⟨h1,by rw[ho3,Q14 h1];exact h⟩
   have Qvl:OuOk ou3:=by
    rw[ho3];refine Q64 Qvy fun o ho=>?_;simp only[Z1p,Z28,or_false]at ho;rcases ho with rfl|rfl|rfl
    ·exact fun p hp=>by simp at hp
    ·simp[AObj.ids,idsL,AC.ids,isO]
    ·simp[AObj.ids,idsL,AC.ids,isO]
   have Qxk:Owns ou3 (objs t):=fun p hp=>(hlow _ _ (Qx1 p hp)).2;have hltk:∀k∈keys (objs t),k < q:=fun k hk=>by obtain⟨p,hp,rfl⟩:=Z1w.1 hk;exact (hlow _ _ (Qx1 p hp)).1
   have Qxr:∀k∈postL t,k < q:=fun k hk=>hltk k (Q61 t k hk);have Qxl:Qo8 ou3 (postL t):=fun k hk=>by obtain⟨p,hp,rfl⟩:=Z1w.1 (Q61 t k hk);obtain⟨cs,hcs⟩:=Q82 t p hp;exact⟨cs,by rw[Qxk p hp,hcs]⟩
   have hpn:=Q9w t hnd;have Qyh:(postL t).length=(ordE e).length:=by rw[Qe8,Q9r,het];exact (Q7r hc).2.symm
   have Qyi:numO ou3 q (q+2) []=ou3:=by
    funext k;unfold numO;by_cases e1:q+2=k
    ·subst e1;rw[Q04,h3c];rfl
    ·rw[Q02 _ e1];by_cases e2:q=k
     ·subst e2;rw[Q04,h3a];rfl
     ·rw[Q02 _ e2]
   have hNu:=Qej hΓt t hpl hto ou3 q (q+2) [] Qvl Qxk (by simpa using Qxl) (by simpa using hpn) (by simp;intro h;have:=Qxr q h;omega) (by simp;intro h;have:=Qxr (q+2) h;omega) zoy (by simp only[Z25];omega);rw[Qyi,Z25]at hNu;refine AOps.lessO ⟨3,[],ou3⟩ rfl (fun i o h=>?_) ?_
   ·cases i with
    |l j=>cases h
    |o j=>rw[ho3]at h;exact h
   refine zcd hΓt hNu ziy Qvl fun Qvq=>?_;obtain⟨ou4,ho4⟩:∃ou4,ou4=numO ou3 q (q+2) (postL t):=⟨_,rfl⟩;rw[←ho4]at Qvq ⊢;have h4n:∀k,k≠q->k≠q+2->ou4 k=ou3 k:=fun k h1 h2=>by rw[ho4];exact Qa6 h1 h2
   have Qyj:∀k o,ou2 k=some o->ou4 k=some o:=fun k o h=>by obtain⟨h1,h2⟩:=hlow k o h;rw[h4n k zoy zoy];exact h2
   obtain⟨X,hX⟩:∃X:CvX,X=⟨ordE e,Q1k (ordE e),y,RT,EF.imp,EF.eff,postL t,q,q+1,mx+2 - 1,t⟩:=⟨_,rfl⟩;have hXM:X.M=mdlE e:=by rw[hX,hM,←hmxe];simp only[CvX.M];congr 1;omega
   have hCv:CvO X (mx+2) ou4:=by
    rw[hX];refine⟨hPl.mono Qyj,by rw[ho4];exact Qlp zoy,(show ou4 (q+1)=_ by rw[h4n (q+1) zoy zoy];exact h3b),fun k hk=>?_,fun p hp=>Qyj _ _ (Qx1 p hp),hpn,Qyh,⟨fun h=>by have:=Qxr _ h;simp only at this;omega,by simp only;omega,fun h=>?_,fun h=>by have:=hltk _ h;simp only at this;omega⟩,Qn3 _,Qvq⟩
    ·obtain⟨c,h⟩:=Qxl k hk;have:=Qxr k hk;exact⟨c,by rw[h4n k zoy zoy];exact h⟩
    ·simp only[Z1p,Z28,or_false]at h;have g1:=(hlow _ _ hPl.p).1;obtain⟨ck,m,gm,_⟩:=hPl.c;have g2:=(hlow _ _ gm).1;obtain⟨cl,_,gl⟩:=hPl.l;have g3:=(hlow _ _ gl).1;have g4:=(hlow _ _ hPl.i).1;have g5:=(hlow _ _ hPl.f).1;omega
   have hPt:PtO X 0 t:=by rw[hX];exact⟨⟨[],[],by simp,rfl⟩,fun p hp=>hp,hpl,hto,by rw[het];exact Qnl hc⟩
   have Qvo:=Q7r hc;have hszt:szT (erT t)<=4096:=by rw[Q9r,het];exact Qvo.1
   have hPr:=Qj8 hΓt hCv.u hPt (mx+2) zoy (by unfold lim;omega);obtain⟨R,hR⟩:∃R,R=Q4s (mdlE e) (cvT (mdlE e) 0 (grow e)) (mx+2):=⟨_,rfl⟩;unfold CvA at hPr;rw[Qpy hCv,hXM,het,←hR,hX]at hPr;have hoE:outE e=listT [] R.1:=by rw[hR,hmxe];rfl
   have hRs:=Q9v (mdlE e) (grow e) 0 (Qfc he (hb1 hhe) hc) (mx+2);rw[←hR]at hRs;have hRc:cntN R.1<=327680:=by have h1:=hRs.2;rw[Q9r]at h1;omega
   have hLo:=List_ok hΓt R.1 hRs.1 (by have:=Q42 R.1 [];simp only[Z17]at this;omega);rw[←hoE]at hLo;have hbo2:okB (outE e):=by rw[hoE];exact Q7a (Q81 _ hRs.1) zoy
   have hCo:=APure.t (Q9m (outE e) hbo2);refine zA ?_;refine zcd hΓt hPr ziy Qvq fun Qvv=>?_;refine zA ?_;refine zca hΓt hLo Qvv ?_;refine zA ?_;refine zca hΓt hCo Qvv ?_;have hend:∀k o,ou k=some o->cvO ⟨ordE e,Q1k (ordE e),y,RT,EF.imp,EF.eff,postL t,q,q+1,mx+2 - 1,t⟩ ou4 R.2 k=some o:=fun k o h=>by have h1:=Qvz k o h;have h2:=(hlow k o h1).1;unfold cvO;rw[Q02 _ (show q+1≠k by omega)];exact Qyj k o h1
   refine zA ?_;refine Qyl rfl (fun hb3=>?_) (fun hb3=>?_)
   ·have hc2:check (outE e)≠0:=by simpa using hb3
    have hR2:cvtE e=([],2):=by unfold cvtE;rw[if_neg (by simp[hc]),if_neg (by simp[hhe]),if_neg (by simp[hT]),if_pos hc2]
    rw[hR2];repeat ((fail_if_success ((with_reducible refine oj ?_);refine Qtz 3 rfl ?_));first|refine zO ?_)
    refine AOps.lessO ⟨3,[],ou⟩ rfl (fun i o ho=>?_) ?_
    ·cases i with
     |l k=>cases ho
     |o k=>exact hend k o ho
    refine zM ?_;exact Qz0 rfl (.tup (.cons (.one (.nilS 5)) (.cons (.refl _) .nil))) zsy hou rfl
   ·have hc2:check (outE e)=0:=by simpa using hb3
    have hR2:cvtE e=(outE e,0):=by unfold cvtE;rw[if_neg (by simp[hc]),if_neg (by simp[hhe]),if_neg (by simp[hT]),if_neg (by simp[hc2])]
    rw[hR2];repeat ((fail_if_success ((with_reducible refine oj ?_);refine Qtz 3 rfl ?_));first|refine zO ?_)
    refine AOps.lessO ⟨3,[],ou⟩ rfl (fun i o ho=>?_) ?_
    ·cases i with
     |l k=>cases ho
     |o k=>exact hend k o ho
    refine zM ?_;exact Qz0 rfl (Z46 rfl) zsy hou rfl
end Go.Proofs.YtlmokgooijbcdaaGreatDoor
namespace Go.CoreX
def NoL (l:Lab):Prop:=l.op≠12/\l.op≠13
abbrev No (t:Tr):Prop:=allT NoL t
end Go.CoreX
namespace Go.Proofs.YtlmokgooijbcdaaGreatDoor
variable {Γ:List (Nat×List AC)}
end Go.Proofs.YtlmokgooijbcdaaGreatDoor
namespace Go.CoreX
mutual
def alB (p:Lab->Bool):Tr->Bool
 |.mk o n b k a=>p ⟨o,n,b,k.map Tr.op,a⟩&&alsB p k
def alsB (p:Lab->Bool):List Tr->Bool
 |[]=>true
 |t::l=>alB p t&&alsB p l
end
mutual
def Q6w:Tr->List Int
 |.mk o n b k a=>if o=1 then n::Q9o k else Q9o k
def Q9o:List Tr->List Int
 |[]=>[]
 |t::l=>Q6w t++Q9o l
end
mutual
theorem Qnu{p:Lab->Bool}{W:Int->Prop}{q:Lab->Prop}(hp:∀l,p l=true->(l.op=1->W l.n)->q l):∀t:Tr,alB p t=true->(∀n∈Q6w t,W n)->allT q t
 |.mk o n b k a,h,hw=>by
  rw[alB,Qzc]at h;rw[Q6w]at hw;refine⟨hp _ h.1 fun ho=>?_,Qnr hp k h.2 fun m hm=>?_⟩
  ·have ho:o=1:=ho;rw[if_pos ho]at hw;exact hw n zsy
  ·split at hw
   ·exact hw m (by simp[hm])
   ·exact hw m hm
theorem Qnr{p:Lab->Bool}{W:Int->Prop}{q:Lab->Prop}(hp:∀l,p l=true->(l.op=1->W l.n)->q l):∀l:List Tr,alsB p l=true->(∀n∈Q9o l,W n)->allTs q l
 |[],h,hw=>trivial
 |t::l,h,hw=>by rw[alsB,Qzc]at h;rw[Q9o]at hw;exact⟨Qnu hp t h.1 fun n hn=>hw n (by simp[hn]),Qnr hp l h.2 fun n hn=>hw n (by simp[hn])⟩
end
theorem pLabW(h:-1073741824<=n/\n<=1073741823):pLab ⟨1,n,[],[],[]⟩:=fun e x hk hl=>by
 obtain⟨o,m,b,ks,a⟩:=x;simp only[labE,Lab.mk.injEq,List.map_eq_nil_iff]at hl;obtain⟨rfl,rfl,rfl,rfl,rfl⟩:=hl;have hb:between m (-1073741824) 1073741823=true:=by simp[between];omega
 simp[Q0i,Q1p,shape,wants,ranges,lowN,highN,hb,fields,Q68,Q7o]
end Go.CoreX
namespace Go.Proofs.YtlmokgooijbcdaaGreatDoor
set_option maxRecDepth 100000
def leafB (l:Lab):Bool:=l.op==1&&(l.binds.isEmpty&&l.ops.isEmpty&&l.alts.isEmpty)
theorem Qi7{l:Lab}(h:leafB l=true):l=⟨1,l.n,[],[],[]⟩:=by obtain⟨o,n,b,k,a⟩:=l;simp only[leafB,Qzc,beq_iff_eq,List.isEmpty_iff]at h;obtain⟨rfl,⟨rfl,rfl⟩,rfl⟩:=h;rfl
theorem Qn2(h:alB (fun l=>leafB l||fragB false l) t=true)(hw:∀n∈Q6w t,inW n):allT (FragL false) t:=
 Qnu (W:=inW) (fun l h1 h2=>by
  rw[Qzk]at h1;rcases h1 with h1|h1
  ·have h3:=Qi7 h1;have h4:inW l.n:=h2 (by rw[h3]);rw[h3];exact Q1u (Qn1 h4)
  ·exact Qil h1) t h hw
theorem Qfb(hw:∀n∈Q6w t,inW n)(hl:alB (fun l=>leafB l||!(l.op==1)) t=true)(h1:Q1d (listT [] t)=0)(h2:((listT [] t).all fun x=>x.op==1||Q0i false (listT [] t) x==0)=true)
  (h3:Q4b (Q08 (listT [] t))=false) (h4:occT [] t=[]):check (listT [] t)=0:=by
 have t2:=Q40 t;have ha:allT (fun l=>l.op=1->l=⟨1,l.n,[],[],[]⟩/\inW l.n) t:=Qnu (W:=inW) (fun l g1 g2 ho=>by
  rw[Qzk]at g1;rcases g1 with g1|g1
  ·exact⟨Qi7 g1,g2 ho⟩
  ·simp[ho]at g1) t hl hw
 refine Qq0 h1 (fun y hy=>?_) ((Q1o _).1 h3) (by rw[Q2y];exact h4);have h:=Qzy.1 h2 y hy;rw[Qzk]at h;rcases h with h|h
 ·have ho:y.op=1:=by simpa using h
  have h5:=Qb0 t2 (by rw[Q2y];exact ha) _ (Z1x (f:=labE (listT [] t)) hy);obtain⟨e1,e2⟩:=h5 ho;exact pLabW (n:=y.n) e2 _ y (Qad t2.k hy) e1
 ·simpa using h
def mdlOf (cl:List Nat)(f:List FCl)(imp eff:List Bool)(up:Int):Mdl:=⟨fun i=>eff.getD i false,fun i=>imp.getD (rtOf cl i) false,fun i=>cnvN cl f imp i,up⟩
def outM (M:Mdl)(t:Tr):Tr:=(Q4s M (cvT M 0 t) (mxT t+2)).1
theorem Qne{o:Tr}{f:List FCl}{cl:List Nat}{imp eff:List Bool}(n:Nat)(hc:check (listT [] t)=0)(he:Q59 (listT [] t)=true)(hs:(Q8o (listT [] t) n).2=false)(hf:flowX (listT [] t) n=f)
  (hcl:Q93 (listT [] t).length f=cl) (hn:effN (listT [] t) cl f (2 * (listT [] t).length+3)=⟨imp,eff,false⟩) (ht:Q5c (mdlOf cl f imp eff (mxT t+1)) (listT [] t)=false)
  (hO:outM (mdlOf cl f imp eff (mxT t+1)) t=o) (hk:check (listT [] o)=0):cvtE (listT [] t)=(listT [] o,0)/\outE (listT [] t)=listT [] o:=by
 have hg:grow (listT [] t)=t:=Q2y t;have ho:ordE (listT [] t)=listT [] t:=by unfold ordE;rw[hg]
 have hfl:Q1k (listT [] t)=f:=by rw[Qpv (Q37 _) hs,hf]
 have hM:mdlE (listT [] t)=mdlOf cl f imp eff (mxT t+1):=by unfold mdlE planM mdlOf;rw[ho,hg,hfl,hcl];simp only[hn]
 have hO2:outE (listT [] t)=listT [] o:=by unfold outE;rw[hM,hg];unfold outM at hO;rw[hO]
 refine⟨?_,hO2⟩;unfold cvtE;rw[if_neg (by simp[hc]),if_neg (by rw[ho,he];simp),if_neg (by rw[ho,hM,ht];simp),if_neg (by rw[hO2,hk];simp),hO2]
theorem Ql6{fu:Int}(g:Nat){m:Ms}{v:Vl}(hc:check (listT [] t)=0)(hf:allT (FragL false) t)(hfu:1<=fu/\fu<=1000000)(hg:goX fu [] g ⟨.ev t .nil,[],[],0,[]⟩=some (.done m v))(ho:m.out.length<=1000)(hs:m.steps<=fu):RunsTo false fu (listT [] t) m v:=
 ⟨hc,by rw[Q2y];exact hf,hfu,by rw[Q2y];exact⟨g,hg,fun h=>by cases h⟩,ho,hs⟩
set_option maxRecDepth 100000
def twF:List FCl:=[(7,([],true)),(12,([],true))]
def twP:List Bool:=List.replicate 15 false++[true]
def twE:List Bool:=[false,false,true,true,false,false,false,true,false,false,false,false,true,true,true]
def twO:Tr:=outM (mdlOf (List.range 16) twF twP twE 4) Q46
theorem Qh2:check (listT [] twO)=0:=by decide +kernel
theorem tw_cvt:cvtE (listT [] Q46)=(listT [] twO,0)/\outE (listT [] Q46)=listT [] twO:=
 Qne (f:=twF) (cl:=List.range 16) (imp:=twP) (eff:=twE) 3
  Qav zky zky zky zky zky zky zky Qh2
theorem tw_run:RunsTo false 3000 (listT [] twO) ⟨.rt (.word 11),[],[],107,[]⟩ (.word 11):=
 Ql6 200 Qh2 (Qn2 zky (fun n hn=>by
  have h:Q6w twO=[5,1,5,3]:=by kernel_rfl
  rw[h]at hn;simp only[Z1p,Z28,or_false]at hn;unfold inW;omega)) zoy zky zsy (by show (107:Int)<=3000;omega)
theorem runN_ok{mf:Ms}{vf:Vl}(he:okB e)(h:RunsTo false 3000 e mf vf):APure Tryz.prog Γc 41 [.one (.sl 5 (e.map cEx))] (.tup [.agg [.sl 1 (mf.out.map cI),int 0,int (lastV vf)],.one (.lit (.bool true))]):=by have hR:=Run_ok MoreC.no he h;intro ou;refine zwk 16 Tryz.func41 fun hou=>?_;refine zA ?_;refine zca hΓc hR hou ?_;refine zM ?_;exact Qz0 rfl (Z46 rfl) zsy hou rfl
theorem Qh3:∀x∈listT [] Q46,x.binds.length+1<=1048576:=by decide +kernel
theorem Qk4:APure Tryz.prog Γt 16 [] (.one (.lit (.bool true))):=by
 have hC:=Qcc (listT [] Q46) Qeg (fun _=>Qh3);have hO:okB (listT [] twO):=by have h:=Qht Qeg Qh3 Qav;rwa [tw_cvt.2]at h
 rw[tw_cvt.1]at hC;have hR:=APure.t (runN_ok hO tw_run);intro ou;refine zwk 25 Tryz.func16 fun hou=>?_;refine zA ?_;refine zca hΓt (Qo0 hΓt) hou ?_;refine zca hΓt hC hou ?_;refine zM ?_;refine zca hΓt hR hou ?_;refine zM ?_;exact Qz0 rfl (Z46 rfl) zsy hou rfl
set_option maxRecDepth 100000
def addC (s:Tr)(n:Int):Tr:=.mk 8 0 [] [.mk 3 0 [] [tV 3,tW n] [],s] []
def sumC (ws:List Int):Tr:=ws.foldl addC (tW 0)
def rscT (b:Int)(ws:List Int):Tr:=.mk 13 0 [] [.mk 8 0 [] [tW b,.mk 12 7 [] [tW 1] []] [],tV 1,sumC ws] [⟨-1,[1]⟩,⟨7,[2,3]⟩]
def valC (b:Int)(ws:List Int):Int:=ws.foldl (fun s n=>wrapW (wrapW (b+n)+s)) 0
def inK (n:Int):Prop:=-10000 < n/\n < 10000
theorem Qci(n:Int):inK (n.tmod 10000):=⟨Int.lt_tmod_of_pos n zdy,Int.tmod_lt_of_pos n zdy⟩
theorem inK.w(h:inK n):inW n:=by unfold inK at h;unfold inW;omega
def wantR (b:Int)(ws:List Int):Int:=ws.foldl (fun s n=>s+(b+n)) 0
theorem wrap_small(h:-1000000<=n/\n<=1000000):wrapW n=n:=by unfold wrapW;omega
theorem Qh0{b:Int}(hb:inK b):∀(ws:List Int)(s c:Int),(∀n∈ws,inK n)->-c<=s->s<=c->-(c+20000 * ws.length)<=ws.foldl (fun s n=>s+(b+n)) s/\ws.foldl (fun s n=>s+(b+n)) s<=c+20000 * ws.length
 |[],s,c,_,h1,h2=>by simp;omega
 |n::ws,s,c,h,h1,h2=>by have hn:=h n zsy;unfold inK at hb hn;have:=Qh0 (b:=b) (by unfold inK;exact hb) ws (s+(b+n)) (c+20000) (fun m hm=>h m (by simp[hm])) zoy zoy;simp only[Z0l,Z13];push_cast at *;omega
theorem Qkk{b:Int}(hb:inK b):∀(ws:List Int)(s c:Int),(∀n∈ws,inK n)->c+20000 * ws.length<=1000000->-c<=s->s<=c->ws.foldl (fun s n=>wrapW (wrapW (b+n)+s)) s=ws.foldl (fun s n=>s+(b+n)) s
 |[],s,c,_,_,h1,h2=>rfl
 |n::ws,s,c,h,hc,h1,h2=>by
  have hn:=h n zsy;unfold inK at hb hn;simp only[Z13]at hc;push_cast at hc;have hw:wrapW (wrapW (b+n)+s)=s+(b+n):=by rw[wrap_small (n:=b+n) zoy,wrap_small zoy];omega
  simp only[Z0l,hw];exact Qkk (b:=b) (by unfold inK;exact hb) ws (s+(b+n)) (c+20000) (fun m hm=>h m (by simp[hm])) zoy zoy zoy
theorem okT_add{s:Tr}(h:okT s):okT (addC s n):=by simp only[addC,tV,tW,okT,okTs];simp[h]
theorem Qhq:∀(ws:List Int)(s:Tr),okT s->okT (ws.foldl addC s)
 |[],_,h=>h
 |n::ws,s,h=>Qhq ws _ (okT_add h)
theorem Qiu:∀(ws:List Int)(s:Tr),cntN (ws.foldl addC s)=cntN s+4 * ws.length
 |[],_=>by simp
 |n::ws,s=>by rw[Z0l,Qiu ws,Z13];simp only[addC,tV,tW,cntN,cntNs];omega
theorem Qll(b:Int)(ws:List Int):okT (rscT b ws):=by have:=Qhq ws (tW 0) (by simp[tW,okT,okTs]);simp only[rscT,sumC,tV,tW,okT,okTs]at *;simp[this]
theorem Qnh(b:Int)(ws:List Int):cntN (rscT b ws)=7+4 * ws.length:=by have:=Qiu ws (tW 0);simp only[rscT,sumC,tV,tW,cntN,cntNs]at *;omega
def fC (n:Nat):List FCl:=(List.range n).map fun i=>(7+3 * i,([],true))
def effC (n:Nat):List Bool:=[false,false,true,true,false]++((List.replicate n [false,false,true]).flatten++(false::List.replicate (n+1) true))
def mdlC (n:Nat):Mdl:=mdlOf (List.range (4 * n+8)) (fC n) (List.replicate (4 * n+7) false++[true]) (effC n) 4
def outC (b:Int)(ws:List Int):Tr:=outM (mdlC ws.length) (rscT b ws)
def leafsB (t:Tr):Bool:=alB (fun l=>leafB l||!(l.op==1)) t
def nodesB (e:List Ex):Bool:=e.all fun x=>x.op==1||Q0i false e x==0
structure Rsc (b:Int)(ws:List Int):Prop where
 chk:check (listT [] (rscT b ws))=0
 cvt:cvtE (listT [] (rscT b ws))=(listT [] (outC b ws),0)
 out:outE (listT [] (rscT b ws))=listT [] (outC b ws)
 run:∃st,RunsTo false 9999 (listT [] (outC b ws)) ⟨.rt (.word (valC b ws)),[],[],st,[]⟩ (.word (valC b ws))
theorem Q4r(hb:inW b)(hw:∀n∈ws,inW n)(p:Nat)(st:Int)(a1:Q6w (rscT b ws)=b::1::(ws.reverse++[0]))(a2:leafsB (rscT b ws)=true)(a3:Q1d (listT [] (rscT b ws))=0)(a4:nodesB (listT [] (rscT b ws))=true)
  (a5:Q4b (Q08 (listT [] (rscT b ws)))=false) (a6:occT [] (rscT b ws)=[]) (he:Q59 (listT [] (rscT b ws))=true) (hs:(Q8o (listT [] (rscT b ws)) p).2=false) (hf:flowX (listT [] (rscT b ws)) p=fC ws.length)
  (hcl:Q93 (listT [] (rscT b ws)).length (fC ws.length)=List.range (4 * ws.length+8)) (hn:effN (listT [] (rscT b ws)) (List.range (4 * ws.length+8)) (fC ws.length) (2 * (listT [] (rscT b ws)).length+3)=⟨List.replicate (4 * ws.length+7) false++[true],effC ws.length,false⟩)
  (hm:mxT (rscT b ws)=3) (ht:Q5c (mdlC ws.length) (listT [] (rscT b ws))=false) (b1:Q6w (outC b ws)=7::0::(ws++[b,7,1])) (b2:leafsB (outC b ws)=true) (b3:Q1d (listT [] (outC b ws))=0) (b4:nodesB (listT [] (outC b ws))=true)
  (b5:Q4b (Q08 (listT [] (outC b ws)))=false) (b6:occT [] (outC b ws)=[]) (c1:alB (fun l=>leafB l||fragB false l) (outC b ws)=true) (d:goX 9999 [] 500 ⟨.ev (outC b ws) .nil,[],[],0,[]⟩=some (.done ⟨.rt (.word (valC b ws)),[],[],st,[]⟩ (.word (valC b ws)))) (hst:st<=9999):Rsc b ws:=by
 have w1:inW 1:=by unfold inW;omega
 have w0:inW 0:=by unfold inW;omega
 have w7:inW 7:=by unfold inW;omega
 have h1:check (listT [] (rscT b ws))=0:=Qfb (fun n hn=>by
  rw[a1]at hn;simp only[Z1p,Z1m,List.mem_reverse,Z28,or_false]at hn;rcases hn with rfl|rfl|h|rfl
  ·exact hb
  ·exact w1
  ·exact hw n h
  ·exact w0) a2 a3 a4 a5 a6
 have hwo:∀n∈Q6w (outC b ws),inW n:=fun n hn=>by
  rw[b1]at hn;simp only[Z1p,Z1m,Z28,or_false]at hn;rcases hn with rfl|rfl|h|rfl|rfl|rfl
  ·exact w7
  ·exact w0
  ·exact hw n h
  ·exact hb
  ·exact w7
  ·exact w1
 have h2:check (listT [] (outC b ws))=0:=Qfb hwo b2 b3 b4 b5 b6;have h3:=Qne (o:=outC b ws) p h1 he hs hf hcl hn (by rw[hm];exact ht) (by rw[hm];rfl) h2;exact⟨h1,h3.1,h3.2,st,Ql6 500 h2 (Qn2 c1 hwo) zoy d zsy hst⟩
theorem rsc_0(hb:inW b)(hw:∀n∈([]:List Int),inW n):Rsc b []:=Q4r hb hw 2 47 zky zky zky zky zky zky zky zky zky zky zky zky zky zky zky zky zky zky zky zky zky zoy
theorem rsc_1(hb:inW b)(hw:∀n∈([x0]:List Int),inW n):Rsc b [x0]:=Q4r hb hw 3 77 zky zky zky zky zky zky zky zky zky zky zky zky zky zky zky zky zky zky zky zky zky zoy
theorem rsc_2(hb:inW b)(hw:∀n∈([x0,x1]:List Int),inW n):Rsc b [x0,x1]:=Q4r hb hw 3 113 zky zky zky zky zky zky zky zky zky zky zky zky zky zky zky zky zky zky zky zky zky zoy
theorem rsc_3(hb:inW b)(hw:∀n∈([x0,x1,x2]:List Int),inW n):Rsc b [x0,x1,x2]:=Q4r hb hw 3 149 zky zky zky zky zky zky zky zky zky zky zky zky zky zky zky zky zky zky zky zky zky zoy
theorem rsc_4(hb:inW b)(hw:∀n∈([x0,x1,x2,x3]:List Int),inW n):Rsc b [x0,x1,x2,x3]:=Q4r hb hw 3 185 zky zky zky zky zky zky zky zky zky zky zky zky zky zky zky zky zky zky zky zky zky zoy
theorem rsc_5(hb:inW b)(hw:∀n∈([x0,x1,x2,x3,x4]:List Int),inW n):Rsc b [x0,x1,x2,x3,x4]:=Q4r hb hw 3 221 zky zky zky zky zky zky zky zky zky zky zky zky zky zky zky zky zky zky zky zky zky zoy
theorem rsc_6{x5:Int}(hb:inW b)(hw:∀n∈([x0,x1,x2,x3,x4,x5]:List Int),inW n):Rsc b [x0,x1,x2,x3,x4,x5]:=Q4r hb hw 3 257 zky zky zky zky zky zky zky zky zky zky zky zky zky zky zky zky zky zky zky zky zky zoy
theorem rsc_all(hb:inW b)(hw:∀n∈ws,inW n)(hl:ws.length<=6):Rsc b ws:=by
 match ws,hl with
 |[],_=>exact rsc_0 hb hw
 |[_],_=>exact rsc_1 hb hw
 |[_,_],_=>exact rsc_2 hb hw
 |[_,_,_],_=>exact rsc_3 hb hw
 |[_,_,_,_],_=>exact rsc_4 hb hw
 |[_,_,_,_,_],_=>exact rsc_5 hb hw
 |[_,_,_,_,_,_],_=>exact rsc_6 hb hw
theorem Ql8(b:Int)(ws:List Int):∀x∈listT [] (rscT b ws),x.binds.length+1<=1048576:=fun x hx=>by
 have h:=Qb0 (Q40 (rscT b ws)) (p:=fun l=>l.binds=[]) (by
  rw[Q2y];have hs:∀(ws:List Int) (s:Tr),allT (fun l=>l.binds=[]) s->allT (fun l=>l.binds=[]) (ws.foldl addC s):=fun ws=>by
   induction ws with
   |nil=>exact fun s h=>h
   |cons n ws ih=>exact fun s h=>ih _ ⟨rfl,⟨rfl,⟨rfl,trivial⟩,⟨rfl,trivial⟩,trivial⟩,h,trivial⟩
  exact⟨rfl,⟨rfl,⟨rfl,trivial⟩,⟨rfl,⟨rfl,trivial⟩,trivial⟩,trivial⟩,⟨rfl,trivial⟩,hs ws _ ⟨rfl,trivial⟩,trivial⟩) _ (Z1x (f:=labE (listT [] (rscT b ws))) hx)
 have h2:x.binds=[]:=h;rw[h2];decide
theorem Qds(base:Int)(l:List Int):APure Tryz.prog Γt 4 [.one (int base),.one (.sl 1 (l.map cI))] (.one (.lit (.bool true))):=by
 obtain⟨L,hL⟩:∃L,L=min l.length 6:=⟨_,rfl⟩;obtain⟨b,hbd⟩:∃b,b=base.tmod 10000:=⟨_,rfl⟩;have hb:inK b:=by rw[hbd];exact Qci base
 obtain⟨ws,hws⟩:∃ws,ws=(l.take L).map (fun x=>x.tmod 10000):=⟨_,rfl⟩;have hwl:ws.length=L:=by rw[hws,Z16,Z1c];omega
 have hwk:∀n∈ws,inK n:=by intro n hn;rw[hws]at hn;obtain⟨x,_,rfl⟩:=Z1w.1 hn;exact Qci x
 have hw6:ws.length<=6:=by omega
 have hval:valC b ws=wantR b ws:=Qkk hb ws 0 0 hwk zoy zoy zoy;obtain⟨hchk,hcvt,hout,st,hrun⟩:=rsc_all hb.w (fun n hn=>(hwk n hn).w) hw6;have hokE:okB (listT [] (rscT b ws)):=Q7a (Q81 _ (Qll b ws)) (by rw[Qnh];omega);have hbn0:∀x∈listT [] (rscT b ws),x.binds.length+1<=1048576:=Ql8 b ws;have hC:=Qcc (listT [] (rscT b ws)) hokE (fun _=>hbn0);rw[hcvt]at hC;have hokO:okB (listT [] (outC b ws)):=by have h:=Qht hokE hbn0 hchk;rwa [hout]at h
 have hR:=APure.t (Run_ok MoreC.no hokO hrun);have hL2:=Qb3 hΓt (rscT b ws) (Qll b ws) (by have:=Q42 (rscT b ws) [];rw[Qnh]at this;simp at this;omega);have hE:=Qk4;intro ou;refine zwk 89 Tryz.func4 fun hou=>?_;refine zA ?_;refine zS (AStep.rem rfl rfl rfl zdy) ?_;refine Qyz 17 rfl (y:=.one (int b)) (.ofEq (by rw[hbd])) ?_;refine zA ?_;refine zca hΓt (W_ok hΓt 0) hou ?_;refine zM ?_;have hml:((if (6:Int) < ((l.map cI).length:Int)then (6:Int)else ((l.map cI).length:Int)))=(L:Int):=by rw[hL,Z16];split <;> omega
 refine Qyz 22 rfl (y:=.one (int (L:Int))) (.ofEq (by rw[hml])) ?_;refine zS (Qry (b:=L) tabOk rfl rfl rfl rfl rfl rfl (by rw[Z16];omega)) ?_;refine zM ?_;have hln:(((l.map cI).take L).length:Int)=(L:Int):=by rw[Z1c,Z16];omega
 have hln':FV.one (int (((l.map cI).take L).length:Int))=.one (int (L:Int)):=by rw[hln]
 refine Qre hΓt (α:=Nat) (fun i=>[(25,.one (int i)),(24,.one (int (L:Int))),(23,.one (.sl 1 ((l.map cI).take L))),(6,.one (int (wantR b (ws.take i)))),(5,.one (.box (cNd (sumC (ws.take i))))),(0,.one (int b))]) (fun i=>⟨0,[],ou⟩) (fun m i=>i<=L/\m=L - i) (a0:=0) (ρ:=_root_.id) ⟨by omega,rfl⟩ (Qzw rfl (Qzo rfl (.ofEq rfl) (Qzo rfl (.ofEq hln') zFW)) zsy zLO rfl rfl hou) fun m i hi=>?_;obtain⟨hiL,rfl⟩:=hi;refine zA ?_;refine Qyl rfl (fun hb'=>?_) (fun hb'=>?_)
 ·have hlt:i < L:=by simpa using hb'
  clear hb';obtain⟨x,hx⟩:=Q00 (show i < l.length by omega);have hgx:((l.map cI).take L)[i]?=some (cI x):=by rw[Z0z hlt];exact Q0c hx
  obtain⟨w,hwd⟩:∃w,w=x.tmod 10000:=⟨_,rfl⟩;have hwi:ws[i]?=some w:=by rw[hws,Z0w,Z0z hlt,hx,hwd];rfl
  have hwK:inK w:=by rw[hwd];exact Qci x
  have ht:ws.take (i+1)=ws.take i++[w]:=by rw[Z2g,hwi];rfl
  have hsum:sumC (ws.take (i+1))=addC (sumC (ws.take i)) w:=by rw[ht];simp[sumC]
  have hwant:wantR b (ws.take (i+1))=wantR b (ws.take i)+(b+w):=by rw[ht];simp[wantR]
  have hbn2:=Qh0 hb (ws.take i) 0 0 (fun n hn=>hwk n (List.mem_of_mem_take hn)) zoy zoy;have Qvg:((ws.take i).length:Int)<=6:=by rw[Z1c];omega
  have hbn3:-120000<=wantR b (ws.take i)/\wantR b (ws.take i)<=120000:=by have e:wantR b (ws.take i)=(ws.take i).foldl (fun s n=>s+(b+n)) 0:=rfl;rw[←e]at hbn2;omega
  have hbK:=hb;unfold inK at hbK hwK;have hN:=N2 (Γ:=Γt) 8 0 (.mk 3 0 [] [tV 3,tW w] []) (sumC (ws.take i));refine zA ?_;refine zS (zIA rfl rfl rfl zoy hgx) ?_;refine zA ?_;refine zca hΓt (V_ok hΓt 3) hou ?_;refine zA ?_;refine zS (AStep.rem rfl rfl rfl zdy) ?_;refine Qyz 31 rfl (y:=.one (int w)) (.ofEq (by rw[hwd])) ?_;refine zca hΓt (W_ok hΓt w) hou ?_;refine zA ?_;refine zca hΓt (N2 (Γ:=Γt) 3 0 (tV 3) (tW w)) hou ?_;refine zA ?_;refine zca hΓt hN hou ?_;refine zA ?_;refine zS (AStep.rem rfl rfl rfl zdy) ?_;refine Qyz 41 rfl (y:=.one (int w)) (.ofEq (by rw[hwd])) ?_;refine zS (Qr0 rfl rfl rfl (.inl ⟨rfl,rfl⟩) zI) ?_;refine zS (Qr0 rfl rfl rfl (.inl ⟨rfl,rfl⟩) zI) ?_;refine Qyz 43 rfl (y:=.one (int (wantR b (ws.take (i+1))))) (.ofEq (by rw[hwant])) ?_;refine Qyz 5 rfl (y:=.one (.box (cNd (sumC (ws.take (i+1)))))) (.ofEq (by rw[hsum];rfl)) ?_;refine zM ?_;exact cInv ⟨L - (i+1),i+1,_root_.id,by omega,⟨by omega,rfl⟩,Qzw rfl zFW zsy zLO rfl rfl hou⟩
 ·have hnl:¬i < L:=by simpa using hb'
  have hiE:i=L:=by omega
  subst hiE;have htk:ws.take i=ws:=Z2k zoy;rw[htk];refine zA ?_;refine zca hΓt (W_ok hΓt b) hou ?_;refine zca hΓt (W_ok hΓt 1) hou ?_;refine zA ?_;refine zca hΓt (N1 (Γ:=Γt) 12 7 (tW 1)) hou ?_;refine zA ?_;refine zca hΓt (N2 (Γ:=Γt) 8 0 (tW b) (.mk 12 7 [] [tW 1] [])) hou ?_;refine zA ?_;refine zca hΓt (V_ok hΓt 1) hou ?_;refine zA ?_;refine zca hΓt (A3 (Γ:=Γt) 13 [⟨-1,[1]⟩,⟨7,[2,3]⟩] (.mk 8 0 [] [tW b,.mk 12 7 [] [tW 1] []] []) (tV 1) (sumC ws)) hou ?_;refine zca hΓt hL2 hou ?_;refine zA ?_;refine zca hΓt hC hou ?_;refine zA ?_;refine zca hΓt hR hou ?_;refine zM ?_;refine zca hΓt hE hou ?_;refine zM ?_;exact Qz0 rfl (Z46 (by simp[hval,lastV])) zsy hou rfl
end Go.Proofs.YtlmokgooijbcdaaGreatDoor
