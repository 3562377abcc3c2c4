/- The greatest identifier of a tree that stays, walked. No condition but the tree's size. -/
import Derived.Test.YtlmokgooijbcdaaGreatDoorC7
set_option maxRecDepth 10000
set_option maxHeartbeats 4000000
set_option linter.unusedVariables false
set_option linter.unusedSimpArgs false
open List renaming foldl_cons->Z1s,mem_singleton->Z3a,range_succ->Z3h
open Go Go.Abs Go.CoreX
variable {e:List Ex}{x:Ex}{l:List FCl}{i N:Nat}{n up:Int}{rt cl:List Nat}{imp eff:List Bool}{s:PSt}{alts:List Alt}{t:Tr}
namespace Go.CoreX
mutual
def mxT:Tr->Int
 |.mk o n b k a=>mxTs ((Q0a o b a).foldl max (-1)) k
def mxTs (m:Int):List Tr->Int
 |[]=>m
 |t::l=>mxTs (max m (mxT t)) l
end
theorem Qh0:∀(l:List Tr)(m:Int),mxTs m l=(l.map mxT).foldl max m
 |[],_=>rfl
 |t::l,m=>by simp only[mxTs,Z2m,Z1s];exact Qh0 l _
theorem maxX_if(a b:Int):max a b=if b > a then b else a:=by rw[Int.max_def];split <;> split <;> omega
def mxLX (c:Int)(l:Lab):Prop:=∀n∈Q0a l.op l.binds l.alts,n<=c
theorem Qfv(c:Int):∀(l:List Int)(m:Int),m<=c->(∀n∈l,n<=c)->l.foldl max m<=c
 |[],m,h,_=>h
 |x::l,m,h,hl=>by simp only[Z1s];have:=hl x zsy;exact Qfv c l _ zoy fun n hn=>hl n (by simp[hn])
mutual
theorem mxT_le(c:Int)(hc:-1<=c):∀t:Tr,Go.CoreX.allT (mxLX c) t->mxT t<=c
 |.mk o n b k a,h=>by simp only[mxT];exact Qmz c hc k _ (Qfv c _ _ hc h.1) h.2
theorem Qmz(c:Int)(hc:-1<=c):∀(l:List Tr)(m:Int),m<=c->Go.CoreX.allTs (mxLX c) l->mxTs m l<=c
 |[],m,h,_=>h
 |t::l,m,h,hl=>by simp only[mxTs];have:=mxT_le c hc t hl.1;exact Qmz c hc l _ zoy hl.2
end
theorem Qga(h:Q0w false e x=0):∀b∈Q0r x,b<=1048575:=by
 have hr:ranges x=0:=by
  unfold Q0w at h;split at h
  ·cases h
  ·unfold Q1z at h;split at h
   ·cases h
   ·split at h
    ·rename_i hr;exact absurd h hr
    ·rename_i hr;simpa using hr
 have hx:x.binds.all Q39=true/\x.alts.all (Q3v x.op)=true:=by
  unfold ranges at hr;split at hr
  ·cases hr
  split at hr
  ·cases hr
  rename_i h1;split at hr
  ·cases hr
  rename_i h2;exact⟨by simpa using h1,by simpa using h2⟩
 have ok:∀n,Q39 n=true->n<=1048575:=fun n hn=>by simp[Q39,between]at hn;omega
 intro b hb;unfold Q0r Q0a at hb;rcases Z2t.1 hb with hb|hb
 ·split at hb
  ·exact ok b (Z14.1 hx.1 b hb)
  ·cases hb
 ·obtain⟨a,ha,hba⟩:=Z31.1 hb;have:=Z14.1 hx.2 a ha;unfold Q3v at this;exact ok b (Z14.1 (Bool.and_eq_true_iff.1 this).2 b hba)
theorem Qom(h:check e=0):allT (mxLX 1048575) (grow e):=by obtain⟨_,p2,_,_⟩:=Q48 h;exact Q83 (Q0z h) fun x hx=>Qga (p2 x hx)
end Go.CoreX
namespace Go.Proofs.YtlmokgooijbcdaaGreatDoor
variable {Γ:List (Nat×List AC)}
theorem Qcn{l:List Int}{m:Int}(h:l[i]?=some n):(l.take (i+1)).foldl max m=if n > (l.take i).foldl max m then n else (l.take i).foldl max m:=by rw[Q0i h,Z1r];exact maxX_if _ _
def MxOk (Γ:List (Nat×List AC))(t:Tr):Prop:=APure Tryz.prog Γ 36 [.one (.box (cTr t))] (.one (int (mxT t)))
theorem Qjz(hΓ:GI Γ):∀t:Tr,okT t->MxOk Γ t
 |.mk o n b ks a,hok=>by
  have ih:∀t∈ks,MxOk Γ t:=fun t ht=>Qjz hΓ t (Q2z.1 hok.2.2.2.2 t ht);have hk:ks.length<=1048576:=hok.2.1;have hbl:Q5z (.mk o n b ks a)<=4194304:=by have h1:=hok.1;have h2:=hok.2.2.2.1.2;unfold Q5z;simp only[Tr.binds,Tr.alts];omega
  have hB:=Q6j hΓ (.mk o n b ks a) hbl hok.2.2.1;have hbn:(Q0a o b a).length<=4194304:=by
   unfold Q5z at hbl;simp only[Tr.binds,Tr.alts]at hbl;unfold Q0a;rw[Z29];split
   ·exact hbl
   ·simp only[Z2e];omega
  have hm:mxT (.mk o n b ks a)=(ks.map mxT).foldl max ((Q0a o b a).foldl max (-1)):=by simp only[mxT,Qh0]
  intro ou;rw[hm];clear hm;obtain⟨bn,hbe⟩:∃bn,bn=Q0a o b a:=⟨_,rfl⟩;rw[show Q0a (Tr.mk o n b ks a).op (Tr.mk o n b ks a).binds (Tr.mk o n b ks a).alts=bn from hbe.symm]at hB;rw[←hbe]at hbn ⊢;clear hbe hbl;refine zwk 34 Tryz.func36 fun hou=>?_;refine zA ?_;refine zca hΓ hB hou ?_;refine zA ?_;refine Qsj hΓ (α:=Nat) (fun i=>[(11,.one (int i)),(10,.one (int (bn.map cI).length)),(9,.one (.sl 1 (bn.map cI))),(3,.one (int ((bn.take i).foldl max (-1)))),(0,.one (.box (cTr (.mk o n b ks a))))])
   (fun i=>⟨0,[],ou⟩) (fun m i=>i<=bn.length/\m=bn.length - i) (a0:=0) (ρ:=id) ⟨by omega,rfl⟩ (Z12 rfl zFS zsy zLO rfl rfl hou) fun m i hi=>?_
  obtain⟨hil,rfl⟩:=hi;refine zA ?_;refine Qzs rfl (fun hb3=>?_) (fun hb3=>?_)
  ·have Qwm:i < bn.length:=by simpa using hb3
   obtain⟨q,hn⟩:=Q00 Qwm;have hsm:=Qcn (m:=-1) hn;refine zA ?_;refine zS (zIA rfl rfl rfl zoy (Q08 hn)) ?_;refine zM ?_;refine cInv ⟨bn.length - (i+1),i+1,id,by omega,⟨by omega,rfl⟩,?_⟩;simp only[hsm];exact Z12 rfl zFS zsy zLO rfl rfl hou
  have hlt:i=bn.length:=by simp at hb3;omega
  subst hlt;rw[Z3p];generalize bn.foldl max (-1)=m0;refine zA ?_;refine Qsj hΓ (α:=Nat) (fun i=>[(24,.one (int i)),(23,.one (int (Q0y ks).length)),(22,.one (.sl 1 (Q0y ks))),(3,.one (int (((ks.map mxT).take i).foldl max m0)))])
   (fun i=>⟨0,[],ou⟩) (fun m i=>i<=ks.length/\m=ks.length - i) (a0:=0) (ρ:=id) ⟨by omega,rfl⟩ (Z12 rfl zFS zsy zLO rfl rfl hou) fun m i hi=>?_
  obtain⟨hil,rfl⟩:=hi;refine zA ?_;refine Qzs rfl (fun hb3=>?_) (fun hb3=>?_)
  ·have Qwm:i < ks.length:=by simpa using hb3
   obtain⟨t,ht⟩:=Q00 Qwm;have hsm:=Qcn (l:=ks.map mxT) (n:=mxT t) (m:=m0) (i:=i) (by simp[ht]);refine zA ?_;refine zS (zIA rfl rfl rfl zoy (Q1f ht)) ?_;refine zA ?_;refine zca hΓ (ih t (Z35 ht)) hou ?_;refine zM ?_;refine cInv ⟨ks.length - (i+1),i+1,id,by omega,⟨by omega,rfl⟩,?_⟩;simp only[hsm];exact Z12 rfl zFS zsy zLO rfl rfl hou
  have hlt:i=ks.length:=by simp[Q0b]at hb3;omega
  subst hlt;rw[show (ks.map mxT).take ks.length=ks.map mxT from Z3q zsy];refine zA ?_;exact Z07 rfl (Z5c rfl) zsy hou rfl
end Go.Proofs.YtlmokgooijbcdaaGreatDoor
namespace Go.CoreX
mutual
theorem Q87:∀t:Tr,szT t=cntN t
 |.mk o n b k a=>by simp only[szT,cntN,Qi6 k]
theorem Qi6:∀l:List Tr,szTs l=cntNs l
 |[]=>rfl
 |t::l=>by simp only[szTs,cntNs,Q87 t,Qi6 l]
end
end Go.CoreX
namespace Go.Proofs.YtlmokgooijbcdaaGreatDoor
theorem PlanO.mono{y:PLay}{ou ou':Outer}(h:PlanO e l y rt imp eff ou)(hs:∀k o,ou k=some o->ou' k=some o):PlanO e l y rt imp eff ou':=by obtain⟨ck,m,hm,him⟩:=h.c;obtain⟨cl,hu,hcl⟩:=h.l;exact⟨hs _ _ h.p,⟨ck,m,hs _ _ hm,him⟩,⟨cl,hu,hs _ _ hcl⟩,hs _ _ h.i,hs _ _ h.f,h.rl,h.il,h.fl,h.el,h.nd⟩
mutual
theorem Q67:∀(t:LTr)(k:Nat),k∈postL t->k∈keys (objs t)
 |.mk i o n nb b ks a,k,h=>by
  simp only[postL,Z2t,Z3a]at h;simp only[objs,keys,Z2m,Z2k,Z2w,Z2t,Z19];rcases h with h|h
  ·exact .inr (.inr (Q4x ks k h))
  ·exact .inl h
theorem Q4x:∀(l:List LTr)(k:Nat),k∈Q0u l->k∈keys (objss l)
 |[],k,h=>by simp[Q0u]at h
 |t::l,k,h=>by
  simp only[Q0u,Z2t]at h;simp only[objss,keys,Z2k,Z2t];rcases h with h|h
  ·exact .inl (Q67 t k h)
  ·exact .inr (Q4x l k h)
end
mutual
theorem Qak:∀(t:LTr),(keys (objs t)).Nodup->(postL t).Nodup
 |.mk i o n nb b ks a,h=>by simp only[objs,keys,Z2m,Z2k,Z19,Z3e]at h;simp only[postL];rw[Z3d];refine⟨Q9c ks (Z3d.1 h.2).2.1,by simp,fun x hx y hy e=>?_⟩;simp at hy;subst hy;subst e;exact h.1 (Z2v _ (Q4x ks x hx))
theorem Q9c:∀(l:List LTr),(keys (objss l)).Nodup->(Q0u l).Nodup
 |[],_=>by simp[Q0u]
 |t::l,h=>by simp only[objss,keys,Z2k]at h;obtain⟨h1,h2,h3⟩:=Z3d.1 h;simp only[Q0u];rw[Z3d];exact⟨Qak t h1,Q9c l h2,fun x hx y hy=>h3 x (Q67 t x hx) y (Q4x l y hy)⟩
end
theorem Qg6(h:check e=0):allT ShL (grow e):=Q83 (Q0z h) fun x hx=>by
 have hs:=Qdd h x hx;obtain⟨_,h2,_,_⟩:=Q48 h;have h3:=h2 x hx;refine⟨⟨⟨x.kids,by simp[labE],hs⟩⟩,fun h5 i hi=>?_⟩;simp only[labE]at h5 hi ⊢;have h4:Q1z e x=0:=by
  unfold Q0w at h3;split at h3
  ·cases h3
  ·exact h3
 unfold Q1z at h4;rw[if_neg (by rw[hs];simp)]at h4;split at h4
 ·exact absurd h4 (by assumption)
 split at h4
 ·cases h4
 ·rename_i _ hb;have hb:(List.range x.binds.length).any (Q1n e x)=false:=by simpa using hb
  have hb2:=Z15.1 hb i (Z38.2 hi);simp only[Q1n,Z0s,not_or]at hb2;have h6:=hb2.1;have hkl:x.kids.length=x.binds.length+1:=by have:ShN 5 x.n x.binds x.kids.length x.alts:=⟨⟨x.kids,rfl,by rw[←h5];exact hs⟩⟩;exact this.recs.1
  have hil:i < x.kids.length:=by omega
  have hkk:=Qdv (Q0z h).k hx _ (Z28 hil);have h7:x.kids.getD i 0=x.kids[i]:=by rw[Z1v,Z20 hil];rfl
  rw[h7]at h6;rw[Z23,Z20 hil,Z4s,Qgx e _ zoy];simpa[h5]using h6
theorem Qba:∀(l:List Int)(m:Int),m<=l.foldl max m
 |[],m=>Z0z _
 |x::l,m=>by have:=Qba l (max m x);simp only[Z1s];omega
theorem mxT_geC:∀t:Tr,-1<=mxT t
 |.mk o n b k a=>by have h1:=Qba (Q0a o b a) (-1);have h2:=Qba (k.map mxT) ((Q0a o b a).foldl max (-1));simp only[mxT,Qh0];omega
theorem Qce:∀(l:List Tr),l.length<=cntNs l
 |[]=>by simp[cntNs]
 |t::l=>by
  have h1:=Qce l;have h2:1<=cntN t:=by cases t;simp[cntN]
  simp only[Z2a,cntNs];omega
structure NdP (l:Lab):Prop where
 b:l.binds.length+1<=1048576
 a:l.alts.length<=1048576
 ab:∀x∈l.alts,x.binds.length<=1048576
 s:l.binds.length+(l.alts.flatMap (·.binds)).length<=4194304
 k13:l.op=13->2<=l.ops.length
mutual
theorem Qjv:∀(t:Tr),allT NdP t->cntN t<=4096->allT NdL t
 |.mk o n b k a,h,hc=>by simp only[allT]at h ⊢;simp only[cntN]at hc;have:=Qce k;exact⟨⟨h.1.b,h.1.a,h.1.ab,h.1.s,by simp only[Z2d];omega,h.1.k13⟩,Qgd k h.2 zoy⟩
theorem Qgd:∀(l:List Tr),allTs NdP l->cntNs l<=4096->allTs NdL l
 |[],_,_=>trivial
 |t::l,h,hc=>by simp only[allTs]at h ⊢;simp only[cntNs]at hc;exact⟨Qjv t h.1 zoy,Qgd l h.2 zoy⟩
end
theorem Q80(h:check e=0):cntN (grow e)<=4096/\(listT [] (grow e)).length=cntN (grow e):=by have t1:=Q0z h;have h1:=Q47 (grow e) [];have h2:=Q9y t1;have h3:=(Q2m e).1 (Q48 h).1;simp only[Z2e]at h1;omega
theorem Qg7(he:okB e)(hb:∀x∈e,x.binds.length+1<=1048576)(h:check e=0):allT NdL (grow e):=by refine Qjv _ (Q83 (Q0z h) fun x hx=>?_) (Q80 h).1;have hs:=Qdd h x hx;have hX:=he.eo.x x hx;exact⟨hb x hx,hX.a,hX.ab,he.b x hx,fun h13=>by have:ShN 13 x.n x.binds x.kids.length x.alts:=⟨⟨x.kids,rfl,by rw[←show x.op=13 from h13];exact hs⟩⟩;have:=this.handle;simp only[labE,Z2d];omega⟩
def ordE (e:List Ex):List Ex:=listT [] (grow e)
def mdlE (e:List Ex):Mdl:=planM (ordE e) (Q1h (ordE e)) (mxT (grow e)+1)
def outE (e:List Ex):List Ex:=listT [] (Q3q (mdlE e) (cvT (mdlE e) 0 (grow e)) (mxT (grow e)+2)).1
def cvtE (e:List Ex):List Ex×Int:=
 if check e≠0 then ([],check e)else if Q1q (ordE e)=false then (ordE e,0)else if Q5f (mdlE e) (ordE e)=true then ([],2)else if check (outE e)≠0 then ([],2)else (outE e,0)
theorem Qdm(he:okB e)(h:check e=0):okB (ordE e):=by have t1:=Q0z h;refine Q9x (Qas _ (he.t t1.k t1.ne)) ?_;have h1:=Q47 (grow e) [];have h2:=Q9y t1;have h3:=he.eo.l;simp only[Z2e]at h1;omega
theorem Qit(he:okB e)(hb1:∀x∈e,x.binds.length+1<=1048576)(hc:check e=0):okB (outE e):=by have hRs:=Qaj (mdlE e) (grow e) 0 (Qg7 he hb1 hc) (mxT (grow e)+2);have h1:=hRs.2;rw[Q87]at h1;have h2:=(Q80 hc).1;exact Q9x (Qas _ hRs.1) zoy
theorem Q94(e:List Ex)(he:okB e)(hb1:Q1q (ordE e)=true->∀x∈e,x.binds.length+1<=1048576):APure Tryz.prog Γt 14 [.one (.sl 5 (e.map cEx))] (.tup [.one (.sl 5 ((cvtE e).1.map cEx)),.one (int (cvtE e).2)]):=by
 intro ou;have hCe:=APure.t (Q6i e he);refine zwk 79 Tryz.func14 fun hou=>?_;refine zA ?_;refine zca hΓt hCe hou ?_;refine zA ?_;refine Qzs rfl (fun hb=>?_) (fun hb=>?_)
 ·have hc:check e≠0:=by simpa using hb
  have hR:cvtE e=([],check e):=by unfold cvtE;rw[if_pos hc]
  rw[hR];refine zA ?_;exact Z07 rfl (.tup (.cons (.one (.nilS 5)) (.cons (.refl _) .nil))) zsy hou rfl
 have hc:check e=0:=by simpa using hb
 have t1:=Q0z hc;have hG:=Qrk hΓt e he.eo t1.k t1 ou;refine zA ?_;refine Qsg hΓt rfl rfl rfl rfl rfl rfl rfl zsy hou hG fun r ou1 hq Qwj Qwy=>?_;obtain⟨t,rfl,het,hpl,how,hnd,hnew,_,hold⟩:=hq;have hto:okT (erT t):=by rw[het];exact he.t t1.k t1.ne
 have hord:listT [] (erT t)=ordE e:=by rw[het];rfl
 have hco:=Q90 hc;have hbo:=Qdm he hc;have hL:=Qri hΓt t hto hpl (by rw[hord];exact hbo.eo.l) ou1 how;rw[hord]at hL;have hcE:check (ordE e)=0:=hco;have hHe:=Qnv hΓt (ordE e) hbo.eo.l;refine zA ?_;refine Z02 hΓt hL rfl rfl rfl rfl rfl rfl rfl Qwy zsy ?_;refine zA ?_;refine zca hΓt hHe Qwy ?_;cases hhe:Q1q (ordE e) with
 |false=>
  have hR:cvtE e=(ordE e,0):=by unfold cvtE;rw[if_neg (by simp[hc]),if_pos hhe]
  rw[hR];repeat ((fail_if_success ((with_reducible refine oj ?_);refine Qv5 3 rfl ?_));first|refine zO ?_)
  refine Qu4 hold ?_;refine zM ?_;exact Z07 rfl (Z5c rfl) zsy hou rfl
 |true=>
  have hFE:=FE_of hbo hcE;have hAn:=Qle hΓt (fun _ _ h=>h) hbo hcE hFE ou1;refine zM ?_;refine Qsg hΓt rfl rfl rfl rfl rfl rfl rfl zsy Qwy hAn fun r ou2 hq Qwj Qx5=>?_;obtain⟨y,rfl,hPl,Qxr,_,hfr2⟩:=hq;obtain⟨RT,hRT⟩:∃RT,RT=Q9k (ordE e).length (Q1h (ordE e)):=⟨_,rfl⟩;obtain⟨EF,hEF⟩:∃EF,EF=effN (ordE e) RT (Q1h (ordE e)) (2 * (ordE e).length+3):=⟨_,rfl⟩;rw[←hRT,←hEF]at hPl;have hM:mdlE e=⟨fun i=>EF.eff.getD i false,fun i=>EF.imp.getD (rtOf RT i) false,fun i=>cnvN RT (Q1h (ordE e)) EF.imp i,mxT (grow e)+1⟩:=by rw[hEF,hRT];rfl
  have hpas:∀i,(mdlE e).pas i=EF.imp.getD (rtOf RT i) false:=fun i=>by rw[hM]
  have htm:Q5f (mdlE e) (ordE e)=true↔∃j x,(ordE e)[j]?=some x/\x.op=2/\(mdlE e).pas j=true/\5 < x.binds.length:=by
   unfold Q5f;rw[Z16];constructor
   ·rintro⟨⟨x,j⟩,h1,h2⟩;rw[Z3b]at h1;simp only[Z0k,beq_iff_eq,decide_eq_true_eq]at h2;exact⟨j,x,h1,h2.1.1,h2.1.2,h2.2⟩
   ·rintro⟨j,x,h1,h2,h3,h4⟩;exact⟨(x,j),by rw[Z3b];exact h1,by simp[h2,h3,h4]⟩
  have Qx6:∀j o,ou j=some o->ou2 j=some o:=fun j o h=>by have h1:=hold j o h;rw[Qxr j (by rw[h1];simp)];exact h1
  have hbl:=hbo.eo.l;refine zA ?_;refine Qsj hΓt (α:=Nat) (fun c=>[(30,.one (int (c:Nat))),(29,.one (int ((ordE e).map cEx).length)),(28,.one (.sl 5 ((ordE e).map cEx))),(7,.one (.ptr (.o y.kp) 0)),(6,.one (.sl 5 ((ordE e).map cEx))),(5,.one (.ptr (.o t.id) 0))]) (fun c=>⟨0,[],ou2⟩)
   (fun m c=>c<=(ordE e).length/\(∀j x,j < c->(ordE e)[j]?=some x->¬(x.op=2/\(mdlE e).pas j=true/\5 < x.binds.length))/\m=(ordE e).length - c) (a0:=0) (ρ:=_root_.id) ⟨by omega,fun j x h=>by omega,rfl⟩
   (Z12 rfl zFS zsy zLO rfl rfl Qx5) fun m c hcc=>?_
  obtain⟨hcl,hno,rfl⟩:=hcc;refine zA ?_;refine Qzs rfl (fun hb2=>?_) (fun hb2=>?_)
  ·have hlt:c < (ordE e).length:=by simpa using hb2
   obtain⟨x,hx⟩:=Q00 hlt;have hps:=Qf5 hΓt hPl (i:=c) zoy;rw[←hpas c]at hps;have Qy3:¬(x.op=2/\(mdlE e).pas c=true/\5 < x.binds.length)->∀j z,j < c+1->(ordE e)[j]?=some z->¬(z.op=2/\(mdlE e).pas j=true/\5 < z.binds.length):=fun hn j z hj hz=>by
    by_cases ej:j=c
    ·subst ej;rw[hx]at hz;cases hz;exact hn
    ·exact hno j z zoy hz
   refine zA ?_;refine zS (zIA rfl rfl rfl zoy (Q08 hx)) ?_;repeat ((fail_if_success ((with_reducible refine oj ?_);refine Qv5 39 rfl ?_));first|refine zO ?_)
   by_cases h2:x.op=2
   ·refine Z06 38 rfl (y:=.one (.lit (.bool true))) (.ofEq (by simp[h2])) ?_;repeat ((fail_if_success ((with_reducible refine oj ?_);refine Qv5 41 rfl ?_));first|refine zO ?_)
    refine Qsf rfl rfl rfl rfl rfl (AStep.callK hΓt rfl rfl rfl zsy Qx5 hps) ?_;cases hpv:(mdlE e).pas c with
    |false=>
     refine zM ?_;exact cInv ⟨(ordE e).length - (c+1),c+1,_root_.id,by omega,⟨by omega,Qy3 (fun h=>by rw[hpv]at h;cases h.2.1),rfl⟩,Z12 rfl zFS zsy zLO rfl rfl Qx5⟩
    |true=>
     repeat ((fail_if_success ((with_reducible refine oj ?_);refine Qv5 48 rfl ?_));first|refine zO ?_)
     by_cases h5:5 < x.binds.length
     ·have hT:Q5f (mdlE e) (ordE e)=true:=htm.2 ⟨c,x,hx,h2,hpv,h5⟩;have hR:cvtE e=([],2):=by unfold cvtE;rw[if_neg (by simp[hc]),if_neg (by simp[hhe]),if_pos hT]
      rw[hR];refine Z06 47 rfl (y:=.one (.lit (.bool true))) (.ofEq (by rw[decide_eq_true (show ((x.binds.map cI).length:Int) > 5 by rw[Z2d];omega)])) ?_;repeat ((fail_if_success ((with_reducible refine oj ?_);refine Qv5 3 rfl ?_));first|refine zO ?_)
      refine AOps.lessO ⟨1,[],ou⟩ rfl (fun i o ho=>?_) ?_
      ·cases i with
       |l k=>cases ho
       |o k=>exact Qx6 k o ho
      refine zM ?_;exact Z07 rfl (.tup (.cons (.one (.nilS 5)) (.cons (.refl _) .nil))) zsy hou rfl
     ·refine Z06 47 rfl (y:=.one (.lit (.bool false))) (.ofEq (by rw[decide_eq_false (show ¬((x.binds.map cI).length:Int) > 5 by rw[Z2d];omega)])) ?_;refine zM ?_;exact cInv ⟨(ordE e).length - (c+1),c+1,_root_.id,by omega,⟨by omega,Qy3 (fun h=>h5 h.2.2),rfl⟩,Z12 rfl zFS zsy zLO rfl rfl Qx5⟩
   ·refine Z06 38 rfl (y:=.one (.lit (.bool false))) (.ofEq (by simp[h2])) ?_;refine zM ?_;exact cInv ⟨(ordE e).length - (c+1),c+1,_root_.id,by omega,⟨by omega,Qy3 (fun h=>h2 h.1),rfl⟩,Z12 rfl zFS zsy zLO rfl rfl Qx5⟩
  ·have hce:c=(ordE e).length:=by simp at hb2;omega
   have hT:Q5f (mdlE e) (ordE e)=false:=by
    cases h:Q5f (mdlE e) (ordE e) with
    |false=>rfl
    |true=>
     obtain⟨j,x,q1,q2⟩:=htm.1 h;exact absurd q2 (hno j x (by rw[hce];exact (Z22.1 q1).1) q1)
   have Qy8:Owns ou2 (objs t):=fun p hp=>by have h1:=how p hp;rw[Qxr p.1 (by rw[h1];simp)];exact h1
   have hmx:-1<=mxT (grow e)/\mxT (grow e)<=1048575:=⟨mxT_geC _,mxT_le 1048575 zoy _ (Qom hc)⟩;have hMo:=Qjz hΓt (erT t) hto;unfold MxOk at hMo;rw[het]at hMo;obtain⟨mx,hmxe⟩:∃mx,mx=mxT (grow e):=⟨_,rfl⟩;rw[←hmxe]at hMo hmx;have hLe:LendF ⟨1,[(0,.map 0 [])],ou2⟩ (.one (.ptr (.o t.id) 0)) (.one (.box (cTr (grow e)))):=by rw[←het];exact Qvc Qy8
   refine zA ?_;refine zS (Z0a rfl) ?_;refine zA ?_;refine AOps.callS hΓt hMo (Plain.lit _) rfl rfl rfl rfl rfl rfl (.cons hLe .nil) ?_;refine zM ?_;refine Z03 [0,1,2] rfl zdy Qx5 fun q hq=>⟨[(69,.one (.mp (.o q))),(65,.one (.ptr (.o t.id) 0)),(11,.one (.ptr (.o (q+2)) 0)),(10,.one (.ptr (.o (q+1)) 0)),(5,.one (.ptr (.o t.id) 0))],[],[.map 0 [],.cells [.ptr (.o y.kp) 0,.mp (.o q),int (mx+2),int (mx+2 - 1)],.cells [int 0]],.cons rfl rfl (.keepO rfl zsy (.cons rfl rfl (.cons rfl rfl (.keepO rfl zsy .nil)))),.nil,.cons rfl rfl (.cons rfl rfl (.cons rfl rfl .nil)),?_⟩;obtain⟨ou3,ho3⟩:∃ou3,ou3=ouAdd ou2 q [.map 0 [],.cells [.ptr (.o y.kp) 0,.mp (.o q),int (mx+2),int (mx+2 - 1)],.cells [int 0]]:=⟨_,rfl⟩;have h3a:ou3 q=some (.map 0 []):=by rw[ho3];exact Q0o (ou:=ou2) (k:=q) 0
   have h3b:ou3 (q+1)=some (.cells [.ptr (.o y.kp) 0,.mp (.o q),int (mx+2),int (mx+2 - 1)]):=by rw[ho3];exact Q0o (ou:=ou2) (k:=q) 1
   have h3c:ou3 (q+2)=some (.cells [int 0]):=by rw[ho3];exact Q0o (ou:=ou2) (k:=q) 2
   have hlow:∀k o,ou2 k=some o->k < q/\ou3 k=some o:=fun k o h=>by have h1:=Q4y hq h;exact⟨h1,by rw[ho3,Q15 h1];exact h⟩
   have Qwr:OuOk ou3:=by
    rw[ho3];refine Q6a Qx5 fun o ho=>?_;simp only[Z2w,Z3f,or_false]at ho;rcases ho with rfl|rfl|rfl
    ·exact fun p hp=>by simp at hp
    ·simp[AObj.ids,idsL,AC.ids,isO]
    ·simp[AObj.ids,idsL,AC.ids,isO]
   have Qyq:Owns ou3 (objs t):=fun p hp=>(hlow _ _ (Qy8 p hp)).2;have hltk:∀k∈keys (objs t),k < q:=fun k hk=>by obtain⟨p,hp,rfl⟩:=Z33.1 hk;exact (hlow _ _ (Qy8 p hp)).1
   have Qyy:∀k∈postL t,k < q:=fun k hk=>hltk k (Q67 t k hk);have Qyr:Qp7 ou3 (postL t):=fun k hk=>by obtain⟨p,hp,rfl⟩:=Z33.1 (Q67 t k hk);obtain⟨cs,hcs⟩:=Q8e t p hp;exact⟨cs,by rw[Qyq p hp,hcs]⟩
   have hpn:=Qak t hnd;have Qzo:(postL t).length=(ordE e).length:=by rw[Qf3,Q87,het];exact (Q80 hc).2.symm
   have Qzp:numO ou3 q (q+2) []=ou3:=by
    funext k;unfold numO;by_cases e1:q+2=k
    ·subst e1;rw[Q04,h3c];rfl
    ·rw[Q02 _ e1];by_cases e2:q=k
     ·subst e2;rw[Q04,h3a];rfl
     ·rw[Q02 _ e2]
   have hNu:=Qfd hΓt t hpl hto ou3 q (q+2) [] Qwr Qyq (by simpa using Qyr) (by simpa using hpn) (by simp;intro h;have:=Qyy q h;omega) (by simp;intro h;have:=Qyy (q+2) h;omega) zoy (by simp only[Z3c];omega);rw[Qzp,Z3c]at hNu;refine AOps.lessO ⟨3,[],ou3⟩ rfl (fun i o h=>?_) ?_
   ·cases i with
    |l j=>cases h
    |o j=>rw[ho3]at h;exact h
   refine zcd hΓt hNu ziy Qwr fun Qww=>?_;obtain⟨ou4,ho4⟩:∃ou4,ou4=numO ou3 q (q+2) (postL t):=⟨_,rfl⟩;rw[←ho4]at Qww ⊢;have h4n:∀k,k≠q->k≠q+2->ou4 k=ou3 k:=fun k h1 h2=>by rw[ho4];exact Qav h1 h2
   have Qzq:∀k o,ou2 k=some o->ou4 k=some o:=fun k o h=>by obtain⟨h1,h2⟩:=hlow k o h;rw[h4n k zoy zoy];exact h2
   obtain⟨X,hX⟩:∃X:CvX,X=⟨ordE e,Q1h (ordE e),y,RT,EF.imp,EF.eff,postL t,q,q+1,mx+2 - 1,t⟩:=⟨_,rfl⟩;have hXM:X.M=mdlE e:=by rw[hX,hM,←hmxe];simp only[CvX.M];congr 1;omega
   have hCv:CvO X (mx+2) ou4:=by
    rw[hX];refine⟨hPl.mono Qzq,by rw[ho4];exact Qmo zoy,(show ou4 (q+1)=_ by rw[h4n (q+1) zoy zoy];exact h3b),fun k hk=>?_,fun p hp=>Qzq _ _ (Qy8 p hp),hpn,Qzo,⟨fun h=>by have:=Qyy _ h;simp only at this;omega,by simp only;omega,fun h=>?_,fun h=>by have:=hltk _ h;simp only at this;omega⟩,Qo5 _,Qww⟩
    ·obtain⟨c,h⟩:=Qyr k hk;have:=Qyy k hk;exact⟨c,by rw[h4n k zoy zoy];exact h⟩
    ·simp only[Z2w,Z3f,or_false]at h;have g1:=(hlow _ _ hPl.p).1;obtain⟨ck,m,gm,_⟩:=hPl.c;have g2:=(hlow _ _ gm).1;obtain⟨cl,_,gl⟩:=hPl.l;have g3:=(hlow _ _ gl).1;have g4:=(hlow _ _ hPl.i).1;have g5:=(hlow _ _ hPl.f).1;omega
   have hPt:PtO X 0 t:=by rw[hX];exact⟨⟨[],[],by simp,rfl⟩,fun p hp=>hp,hpl,hto,by rw[het];exact Qg6 hc⟩
   have Qwu:=Q80 hc;have hszt:szT (erT t)<=4096:=by rw[Q87,het];exact Qwu.1
   have hPr:=Qk6 hΓt hCv.u hPt (mx+2) zoy (by unfold lim;omega);obtain⟨R,hR⟩:∃R,R=Q3q (mdlE e) (cvT (mdlE e) 0 (grow e)) (mx+2):=⟨_,rfl⟩;unfold CvA at hPr;rw[Qr2 hCv,hXM,het,←hR,hX]at hPr;have hoE:outE e=listT [] R.1:=by rw[hR,hmxe];rfl
   have hRs:=Qaj (mdlE e) (grow e) 0 (Qg7 he (hb1 hhe) hc) (mx+2);rw[←hR]at hRs;have hRc:cntN R.1<=327680:=by have h1:=hRs.2;rw[Q87]at h1;omega
   have hLo:=List_ok hΓt R.1 hRs.1 (by have:=Q47 R.1 [];simp only[Z2e]at this;omega);rw[←hoE]at hLo;have hbo2:okB (outE e):=by rw[hoE];exact Q9x (Qas _ hRs.1) zoy
   have hCo:=APure.t (Q6i (outE e) hbo2);refine zA ?_;refine zcd hΓt hPr ziy Qww fun Qx2=>?_;refine zA ?_;refine zca hΓt hLo Qx2 ?_;refine zA ?_;refine zca hΓt hCo Qx2 ?_;have hend:∀k o,ou k=some o->cvO ⟨ordE e,Q1h (ordE e),y,RT,EF.imp,EF.eff,postL t,q,q+1,mx+2 - 1,t⟩ ou4 R.2 k=some o:=fun k o h=>by have h1:=Qx6 k o h;have h2:=(hlow k o h1).1;unfold cvO;rw[Q02 _ (show q+1≠k by omega)];exact Qzq k o h1
   refine zA ?_;refine Qzs rfl (fun hb3=>?_) (fun hb3=>?_)
   ·have hc2:check (outE e)≠0:=by simpa using hb3
    have hR2:cvtE e=([],2):=by unfold cvtE;rw[if_neg (by simp[hc]),if_neg (by simp[hhe]),if_neg (by simp[hT]),if_pos hc2]
    rw[hR2];repeat ((fail_if_success ((with_reducible refine oj ?_);refine Qv5 3 rfl ?_));first|refine zO ?_)
    refine AOps.lessO ⟨3,[],ou⟩ rfl (fun i o ho=>?_) ?_
    ·cases i with
     |l k=>cases ho
     |o k=>exact hend k o ho
    refine zM ?_;exact Z07 rfl (.tup (.cons (.one (.nilS 5)) (.cons (.refl _) .nil))) zsy hou rfl
   ·have hc2:check (outE e)=0:=by simpa using hb3
    have hR2:cvtE e=(outE e,0):=by unfold cvtE;rw[if_neg (by simp[hc]),if_neg (by simp[hhe]),if_neg (by simp[hT]),if_neg (by simp[hc2])]
    rw[hR2];repeat ((fail_if_success ((with_reducible refine oj ?_);refine Qv5 3 rfl ?_));first|refine zO ?_)
    refine AOps.lessO ⟨3,[],ou⟩ rfl (fun i o ho=>?_) ?_
    ·cases i with
     |l k=>cases ho
     |o k=>exact hend k o ho
    refine zM ?_;exact Z07 rfl (Z5c rfl) zsy hou rfl
end Go.Proofs.YtlmokgooijbcdaaGreatDoor
namespace Go.CoreX
def idxs (i:Nat):List Tr->List Int
 |[]=>[]
 |t::ts=>(((i+szT t:Nat):Int) - 1)::idxs (i+szT t) ts
mutual
def AtE (e:List Ex)(i:Nat):Tr->Prop
 |.mk o n b k a=>e[i+szTs k]?=some ⟨o,n,b,idxs i k,a⟩/\AtEs e i k
def AtEs (e:List Ex)(i:Nat):List Tr->Prop
 |[]=>True
 |t::ts=>AtE e i t/\AtEs e (i+szT t) ts
end
theorem Qb0(t:Tr)(out:List Ex):(listT out t).length=out.length+szT t:=by rw[Q87];exact Q47 t out
theorem Q8k:∀(l:List Tr)(out:List Ex),(Q03 out l).1.length=out.length+szTs l
 |[],out=>by simp[Q03,szTs]
 |t::l,out=>by simp only[Q03,szTs,Q8k l,Qb0];omega
mutual
theorem Qj2:∀(t:Tr)(out post:List Ex),AtE (listT out t++post) out.length t
 |.mk o n b k a,out,post=>by obtain⟨h1,h2⟩:=Qfh k out ([⟨o,n,b,(Q03 out k).2,a⟩]++post);simp only[AtE,listT];rw[Z17];refine⟨?_,h1⟩;rw[Z1x (by rw[Q8k];exact Z46 _),Q8k,Z4d,h2];rfl
theorem Qfh:∀(l:List Tr)(out post:List Ex),AtEs ((Q03 out l).1++post) out.length l/\(Q03 out l).2=idxs out.length l
 |[],out,post=>⟨trivial,rfl⟩
 |t::l,out,post=>by
  obtain⟨h1,h2⟩:=Qfh l (listT out t) post;rw[Qb0]at h1 h2;have hpre:∃r,(Q03 (listT out t) l).1=listT out t++r:=Q8j l (listT out t);obtain⟨r,hr⟩:=hpre;refine⟨⟨?_,h1⟩,?_⟩
  ·simp only[Q03];rw[hr,Z17];exact Qj2 t out (r++post)
  ·simp only[Q03,idxs,h2,Qb0]
theorem Qn6:∀(t:Tr)(out:List Ex),∃r,listT out t=out++r
 |.mk o n b k a,out=>by obtain⟨r,hr⟩:=Q8j k out;refine⟨r++[⟨o,n,b,(Q03 out k).2,a⟩],?_⟩;simp only[listT];rw[hr,Z17]
theorem Q8j:∀(l:List Tr)(out:List Ex),∃r,(Q03 out l).1=out++r
 |[],out=>⟨[],by simp[Q03]⟩
 |t::l,out=>by obtain⟨r1,h1⟩:=Qn6 t out;obtain⟨r2,h2⟩:=Q8j l (listT out t);exact⟨r1++r2,by simp only[Q03];rw[h2,h1,Z17]⟩
end
theorem ordT_at(t:Tr):AtE (listT [] t) 0 t:=by have:=Qj2 t [] [];rw[Z18]at this;exact this
theorem Q50{x:Ex}{eff:List Bool}{b:Bool}:∀{n:Nat},Q20 x eff n b=false->b=false/\∀k,k < n->¬(x.op=2∨(x.op=5/\k < x.binds.length))->eff.getD (x.kids.getD k 0).toNat false=false
 |0,h=>⟨by simpa[Q20]using h,fun k hk=>by omega⟩
 |n+1,h=>by
  unfold Q20 at h;rw[Z3h,Z1r]at h;simp only[Z1s,List.foldl_nil]at h;by_cases hc:x.op=2∨(x.op=5/\n < x.binds.length)
  ·rw[if_pos hc]at h;obtain⟨h1,h2⟩:=Q50 (n:=n) h;exact⟨h1,fun k hk hn=>by
    by_cases e:k=n
    ·subst e;exact absurd hc hn
    ·exact h2 k zoy hn⟩
  ·rw[if_neg hc,Z0r]at h;obtain⟨h1,h2⟩:=Q50 (n:=n) h.1;exact⟨h1,fun k hk hn=>by
    by_cases e:k=n
    ·subst e;exact h.2
    ·exact h2 k zoy hn⟩
structure FixN (M:Mdl)(i:Nat)(x:Ex):Prop where
 l:x.op=2->M.eff i=false/\(M.pas i=false->M.eff (x.kids.getD 0 0).toNat=false)
 o:x.op≠2->M.eff i=false->x.op≠12/\x.op≠13/\∀k,k < x.kids.length->¬(x.op=5/\k < x.binds.length)->M.eff (x.kids.getD k 0).toNat=false
theorem Q97{s0:PSt}{is:Bool}(h:Q58 s i is=s0)(hm:s0.moved=false):is=s.eff.getD i false/\s=s0:=by
 unfold Q58 at h;split at h
 ·rename_i hc;exact⟨hc,h⟩
 ·subst h;cases hm
theorem fix_of(hm:s.moved=false)(hx:e[i]?=some x)(h:Q3a e cl l s i=s):
  FixN ⟨fun i=>s.eff.getD i false,fun i=>s.imp.getD (rtOf cl i) false,fun i=>cnvN cl l s.imp i,up⟩ i x:=by
 have hg:e.getD i ⟨0,0,[],[],[]⟩=x:=by rw[Z1v,hx];rfl
 unfold Q3a at h;rw[hg]at h;refine⟨fun h2=>?_,fun h2 hf=>?_⟩
 ·simp only[if_pos h2]at h;obtain⟨h3,h4⟩:=Q97 h hm;rw[h4]at h3;refine⟨h3.symm,fun hp=>?_⟩;simp only at hp ⊢;unfold Q7h at h4;split at h4
  ·rw[←h4]at hm;cases hm
  ·rename_i hc;cases hk:s.eff.getD (x.kids.getD 0 0).toNat false with
   |false=>rfl
   |true=>exact absurd ⟨hk,hp⟩ hc
 ·simp only[if_neg h2]at h;obtain⟨h3,_⟩:=Q97 h hm;simp only at hf;rw[hf]at h3;obtain⟨h4,h5⟩:=Q50 h3;unfold isEff at h4;simp only[Z0r,beq_eq_false_iff_ne]at h4;exact⟨h4.1.1,h4.1.2,fun k hk hn=>h5 k hk (fun hc=>hc.elim h2 hn)⟩
def NoL (l:Lab):Prop:=l.op≠12/\l.op≠13
abbrev No (t:Tr):Prop:=allT NoL t
abbrev NoS (l:List Tr):Prop:=allTs NoL l
structure NP (c:Cv):Prop where
 P:c.eff=false->∀s,No (c.P s).1
 F:c.op=2->∀s,No (c.F s).1
 T:∀k m s,No (c.T k m s).1
theorem Qbq{l r:List Tr}(h:NoS l)(k:NoS r):NoS (l++r):=Q4u.2 fun t ht=>(Z2t.1 ht).elim (Q4u.1 h t) (Q4u.1 k t)
theorem Qmq:∀{l:List Cv},(∀c∈l,NP c)->(∀c∈l,c.eff=false)->∀s,NoS (mpP l s).1
 |[],_,_,s=>trivial
 |c::l,h,he,s=>⟨(h c zsy).P (he c zsy) s,Qmq (fun c hc=>h c (by simp[hc])) (fun c hc=>he c (by simp[hc])) _⟩
theorem np_mpF:∀{l:List Cv},(∀c∈l,NP c)->(∀c∈l,c.op=2)->∀s,NoS (mpF l s).1
 |[],_,_,s=>trivial
 |c::l,h,he,s=>⟨(h c zsy).F (he c zsy) s,np_mpF (fun c hc=>h c (by simp[hc])) (fun c hc=>he c (by simp[hc])) _⟩
theorem np_mpK(k m:Int):∀{l:List Cv},(∀c∈l,NP c)->∀s,NoS (mpK k m l s).1
 |[],_,s=>trivial
 |c::l,h,s=>⟨(h c zsy).T k m s,np_mpK k m (fun c hc=>h c (by simp[hc])) _⟩
theorem Qbp(o n:Int)(h:o≠12/\o≠13):No (.mk o n [] [] []):=⟨h,trivial⟩
theorem Qmp{fin:List Tr->Int->Int->Int->Tr×Int}(hfin:∀l k m s,NoS l->No (fin l k m s).1):∀{l:List Cv},(∀c∈l,NP c)->∀done k m s,NoS done->No (seqB fin l done k m s).1
 |[],_,done,k,m,s,hd=>hfin done k m s hd
 |c::l,h,done,k,m,s,hd=>by
  have hr:∀c∈l,NP c:=fun c hc=>h c (by simp[hc]);have hdn:∀x:Int,NoS (done++[refE x]):=fun x=>Qbq hd ⟨Qbp 0 x zdy,trivial⟩;simp only[seqB];split
  ·rename_i ha;refine hfin _ k m _ (Qbq hd (Qmq h (fun c hc=>?_) s));have:=Z14.1 ha c hc;simpa using this
  ·split
   ·rename_i he;simp only[letE,No,allT,allTs];exact⟨⟨by simp[NoL],by simp[NoL]⟩,(h c zsy).P he _,Qmp hfin hr _ _ _ _ (hdn s),trivial⟩
   ·unfold bindB;simp only[letE,lamE,No,allT,allTs];exact⟨⟨by simp[NoL],by simp[NoL]⟩,⟨⟨by simp[NoL],by simp[NoL]⟩,Qmp hfin hr _ _ _ _ (hdn s),trivial⟩,(h c zsy).T _ _ _,trivial⟩
theorem np_fin{cnv:Bool}{op:Int}{binds:List Int}{rest:List Cv}(h:∀c∈rest,NP c)(h13:op≠13)(l:List Tr)(k m s:Int)(hl:NoS l):No (finB up cnv op n binds alts rest l k m s).1:=by
 unfold finB;split
 ·exact⟨⟨by simp[NoL],by simp[NoL]⟩,Qbq hl (np_mpK k m h s)⟩
 ·split
  ·have hx:No (l.getD 0 default):=by
    cases l with
    |nil=>exact Qbp 0 0 zdy
    |cons x l=>exact hl.1
   simp only[appE,refE,wordE,No,allT,allTs,NoL]at hx ⊢;exact⟨by decide,⟨by decide,trivial⟩,⟨by decide,trivial⟩,hx,⟨by decide,trivial⟩,⟨by decide,trivial⟩,trivial⟩
  ·split
   ·refine⟨⟨by simp[NoL],by simp[NoL]⟩,Qbq hl ?_⟩;simp[conE,refE,allT,allTs,NoL]
   ·rename_i h12 _;simp only[appE,refE,No,allT,allTs,NoL];exact⟨by decide,⟨by decide,trivial⟩,⟨⟨h12,h13⟩,hl⟩,⟨by decide,trivial⟩,trivial⟩
theorem Qcc{op v b h k2 m2:Int}:∀{l:List (Alt×Cv)},(∀p∈l,NP p.2)->∀(body:Tr)(s:Int),No body->No (Q16 op v b h k2 m2 l body s).1
 |[],_,body,s,hb=>hb
 |(a,c)::l,hl,body,s,hb=>by have h1:=(hl (a,c) zsy).T k2 m2 (s+2);simp only[Q16];refine Qcc (fun p hp=>hl p (by simp[hp])) _ _ ?_;simp only[No]at hb h1;simp[-List.getD_eq_getElem?_getD,No,letE,lamE,appE,conE,refE,wordE,allT,allTs,NoL,hb,h1]
theorem Qj9:∀(l:List Tr)(i:Nat),(idxs i l).length=l.length
 |[],_=>rfl
 |t::l,i=>by simp[idxs,Qj9 l]
theorem np_dflt:NP default:=⟨fun _ _=>Qbp 0 0 zdy,fun _ _=>Qbp 0 0 zdy,fun _ _ _=>Qbp 0 0 zdy⟩
theorem np_at{l:List Cv}(h:∀c∈l,NP c)(i:Nat):NP (l.getD i default):=by
 rw[Z1v];cases hi:l[i]? with
 |none=>exact np_dflt
 |some c=>exact h c (Z35 hi)
theorem Qmr{ks:List Cv}(h:∀c∈ks,NP c)(k m s:Int):No (Q46 up alts ks k m s).1:=by unfold Q46;dsimp only;have hc:=Qcc (op:=s+1) (v:=s+2) (b:=s+3) (h:=s) (k2:=s+5) (m2:=s+6) (l:=((alts.drop 1).zip (ks.drop 2)).reverse) (fun p hp=>by obtain⟨a,c⟩:=p;have:=List.mem_reverse.1 hp;exact h c (Z36 (List.of_mem_zip this).2)) (Q2e up s (s+1) (s+2) (s+3) (s+5) (s+6) (s+7)).1 (Q2e up s (s+1) (s+2) (s+3) (s+5) (s+6) (s+7)).2 (by simp[Q2e,No,appE,refE,lamE,conE,allT,allTs,NoL]);generalize Q16 (s+1) (s+2) (s+3) s (s+5) (s+6) ((alts.drop 1).zip (ks.drop 2)).reverse _ _=cc at hc ⊢;have h0:=np_at h 0;have h1:=np_at h 1;obtain⟨c0,hc0⟩:∃c0,c0=ks.getD 0 default:=⟨_,rfl⟩;obtain⟨c1,hc1⟩:∃c1,c1=ks.getD 1 default:=⟨_,rfl⟩;rw[←hc0]at h0 ⊢;rw[←hc1]at h1 ⊢;unfold Q2w;have q1:=h1.T (cc.2+1+4) (cc.2+1+5) (cc.2+1+6);have q0:=h0.T (cc.2+1) cc.2 (c1.T (cc.2+1+4) (cc.2+1+5) (cc.2+1+6)).2;simp only[No]at hc q0 q1;simp[-List.getD_eq_getElem?_getD,No,letE,lamE,takeE,conE,refE,allT,allTs,NoL,hc,q0,q1]
mutual
theorem cvT_np{M:Mdl}{e:List Ex}(hM:∀i x,e[i]?=some x->FixN M i x):∀(t:Tr)(i:Nat),AtE e i t->allT (fun l=>l.op=5->∀j,j < l.binds.length->l.ops[j]?=some 2) t->NP (cvT M i t)
 |.mk op n binds kids alts,i,h,hr=>by
  simp only[AtE]at h;simp only[allT]at hr;have hk:=Qoh hM kids i h.2 hr.2;have hF:=hM _ _ h.1;have hks:∀c∈cvTs M i kids,NP c:=fun c hc=>by obtain⟨j,hj⟩:=Z32.1 hc;exact (hk j c hj).1
  have hkE:∀(j:Nat) (c:Cv),(cvTs M i kids)[j]?=some c->c.eff=M.eff ((idxs i kids).getD j 0).toNat:=fun j c hj=>(hk j c hj).2.1;have hkO:∀(j:Nat) (c:Cv),(cvTs M i kids)[j]?=some c->(kids.map Tr.op)[j]?=some c.op:=fun j c hj=>(hk j c hj).2.2.1;have hil:(idxs i kids).length=kids.length:=Qj9 kids i;have hlam:∀c∈cvTs M i kids,c.op=2->c.eff=false:=fun c hc h2=>by obtain⟨j,hj⟩:=Z32.1 hc;exact (hk j c hj).2.2.2 h2
  have hfun:op=2->∀s,No (funB (M.pas (i+szTs kids)) binds ((cvTs M i kids).getD 0 default) s).1:=fun h2 s=>by
   unfold funB;have hx:=np_at hks 0;split
   ·have:=hx.T (s+1) (s+2) (s+3);simp only[No]at this;simp[-List.getD_eq_getElem?_getD,No,lamE,takeE,refE,allT,allTs,NoL,this]
   ·rename_i hp;have hp:M.pas (i+szTs kids)=false:=by simpa using hp
    have he:((cvTs M i kids).getD 0 default).eff=false:=by
     rw[Z1v];cases h0:(cvTs M i kids)[0]? with
     |none=>rfl
     |some c=>
      show c.eff=false;rw[hkE 0 c h0];exact (hF.l h2).2 hp
    have:=hx.P he s;simp only[No]at this;simp[-List.getD_eq_getElem?_getD,No,lamE,allT,allTs,NoL,this]
  have Qx0:M.eff (i+szTs kids)=false->∀s,No (pureB (M.pas (i+szTs kids)) op n binds alts (cvTs M i kids) s).1:=fun he s=>by
   unfold pureB;split
   ·rename_i h2;exact hfun h2 s
   ·rename_i h2;obtain⟨o1,o2,o3⟩:=hF.o h2 he;refine⟨⟨o1,o2⟩,Qmq hks (fun c hc=>?_) s⟩;obtain⟨j,hj⟩:=Z32.1 hc;have hjl:j < (idxs i kids).length:=by have:=(Z22.1 hj).1;rw[Q1d]at this;omega
    by_cases h5:op=5/\j < binds.length
    ·have h6:=hr.1 h5.1 j h5.2;rw[hkO j c hj]at h6;exact hlam c hc (Z4t h6)
    ·rw[hkE j c hj];exact o3 j hjl h5
  simp only[cvT];refine⟨Qx0,hfun,fun k m s=>?_⟩;simp only[tailB];split
  ·rename_i he;have:=Qx0 he s;simp only[No]at this;simp[-List.getD_eq_getElem?_getD,No,appE,refE,allT,allTs,NoL,this]
  ·split
   ·have h0:=np_at hks 0;have h1:=np_at hks 1;split
    ·rename_i hx;have q0:=h0.P hx s;have q1:=h1.T k m (((cvTs M i kids).getD 0 default).P s).2;simp only[No]at q0 q1;simp[-List.getD_eq_getElem?_getD,No,letE,allT,allTs,NoL,q0,q1]
    ·unfold bindB;have q1:=h1.T k s (s+1);have q0:=h0.T (((cvTs M i kids).getD 1 default).T k s (s+1)).2 m ((((cvTs M i kids).getD 1 default).T k s (s+1)).2+1);simp only[No]at q0 q1;simp[-List.getD_eq_getElem?_getD,No,letE,lamE,allT,allTs,NoL,q0,q1]
   ·split
    ·rename_i h5;refine⟨⟨by simp[NoL],by simp[NoL]⟩,Qbq (np_mpF (fun c hc=>hks c (List.mem_of_mem_take hc)) (fun c hc=>?_) s) ⟨(np_at hks _).T _ _ _,trivial⟩⟩;obtain⟨j,hj⟩:=Z32.1 hc;have hjl:j < binds.length:=by have:=(Z22.1 hj).1;rw[Z2i]at this;omega
     rw[Z26 hjl]at hj;have h6:=hr.1 h5 j hjl;rw[hkO j c hj]at h6;exact Z4t h6
    ·split
     ·exact Qmr hks k m s
     ·rename_i h13;exact Qmp (fun l k m s hl=>np_fin (fun c hc=>hks c (Z36 hc)) h13 l k m s hl) (fun c hc=>hks c (List.mem_of_mem_take hc)) [] k m s trivial
theorem Qoh{M:Mdl}{e:List Ex}(hM:∀i x,e[i]?=some x->FixN M i x):∀(l:List Tr)(i:Nat),AtEs e i l->allTs (fun l=>l.op=5->∀j,j < l.binds.length->l.ops[j]?=some 2) l->∀(j:Nat)(c:Cv),(cvTs M i l)[j]?=some c->NP c/\c.eff=M.eff ((idxs i l).getD j 0).toNat/\(l.map Tr.op)[j]?=some c.op/\(c.op=2->c.eff=false)
 |[],i,_,_,j,c,hj=>by simp[cvTs]at hj
 |t::ts,i,h,hr,j,c,hj=>by
  simp only[AtEs]at h;simp only[allTs]at hr;cases j with
  |zero=>
   simp only[cvTs,Z1y,Z4u]at hj;subst hj;refine⟨cvT_np hM t i h.1 hr.1,?_,?_,?_⟩
   ·cases t with
    |mk o n b k a=>
     simp only[cvT,idxs,Z1u,szT];congr 1;omega
   ·cases t with
    |mk o n b k a=>simp[cvT,Tr.op]
   ·cases t with
    |mk o n b k a=>
     simp only[AtE]at h;exact fun h2=>((hM _ _ h.1.1).l h2).1
  |succ j=>
   simp only[cvTs,List.getElem?_cons_succ]at hj;obtain⟨q1,q2,q3,q4⟩:=Qoh hM ts (i+szT t) h.2 hr.2 j c hj;exact⟨q1,by simpa[idxs]using q2,by simpa using q3,q4⟩
end
theorem Qm6(h0:0 < N)(h:∀r∈rt,r < N)(i:Nat):rtOf rt i < N:=by
 unfold rtOf;rw[Z1v];cases hi:rt[i]? with
 |none=>exact h0
 |some r=>exact h r (Z35 hi)
theorem Qdx(h0:0 < N)(h:∀r∈rt,r < N)(i j:Nat):∀r∈joinR rt i j,r < N:=fun r hr=>by
 unfold joinR at hr;obtain⟨x,hx,rfl⟩:=Z33.1 hr;split
 ·exact Qm6 h0 h j
 ·exact h x hx
theorem Qqn{m:Nat}{c:FCl}(h0:0 < N)(h:∀r∈rt,r < N)(f:Nat):∀r∈joinF m c rt f,r < N:=by
 unfold joinF;split
 ·exact Qdx h0 (Qdx h0 h _ _) _ _
 ·exact Qdx h0 h _ _
theorem Qok(m:Nat)(l:List FCl):∀i,i < m->(Q9k m l).getD i 0 < m+1:=by
 have h1:∀(fs:List Nat) (c:FCl) (rt:List Nat),(∀r∈rt,r < m+1)->∀r∈fs.foldl (joinF m c) rt,r < m+1:=by
  intro fs c
  induction fs with
  |nil=>intro rt h;exact h
  |cons f fs ih=>intro rt h;exact ih _ (Qqn zoy h f)
 have h2:∀(l:List FCl) (rt:List Nat),(∀r∈rt,r < m+1)->∀r∈l.foldl (joinC m) rt,r < m+1:=by
  intro l
  induction l with
  |nil=>intro rt h;exact h
  |cons c l ih=>intro rt h;exact ih _ (h1 c.2.1 c rt h)
 exact fun i hi=>Qm6 zoy (h2 l (List.range (m+1)) fun r hr=>by simpa using hr) i
theorem Qct{e:List Ex}{cl:List Nat}{l:List FCl}{s:PSt}:∀n,(∀i,i < n->Q3a e cl l s i=s)->Q1c e cl l n s=s
 |0,_=>rfl
 |n+1,h=>by
  have:Q1c e cl l (n+1) s=Q3a e cl l (Q1c e cl l n s) n:=by simp[Q1c,Z3h]
  rw[this,Qct n fun i hi=>h i zoy];exact h n zoy
end Go.CoreX
namespace Go.Proofs.YtlmokgooijbcdaaGreatDoor
theorem Qcv{e:List Ex}{cl:List Nat}{l:List FCl}(hcl:∀i,i < e.length->cl.getD i 0 < e.length+1):∀n,(effN e cl l n).moved=false->∀i,i < e.length->Q3a e cl l (effN e cl l n) i=effN e cl l n
 |0,h=>by simp[effN,eff0]at h
 |n+1,h=>by
  simp only[effN]at h ⊢;split at h
  ·rename_i hm;have h1:=(Qec hcl (l:=l) n).1;have h2:EffI e cl l ⟨(effN e cl l n).imp,(effN e cl l n).eff,false⟩:=⟨h1.il,h1.fl,h1.g⟩;unfold Q7u at h;have h3:=Q7t h2 hcl e.length (Z46 _) h rfl;have h4:=Qct e.length h3;unfold Q7u;rw[if_pos hm,h4];exact h3
  ·rename_i hm;rw[if_neg hm];exact Qcv hcl n h
theorem Qqe(e:List Ex):∀i x,(ordE e)[i]?=some x->FixN (mdlE e) i x:=fun i x hx=>by have hcl:=Qok (ordE e).length (Q1h (ordE e));have hm:=Qr0 (l:=Q1h (ordE e)) hcl;exact fix_of hm hx (Qcv hcl _ hm i (Z22.1 hx).1)
theorem out_no(h:check e=0):No (Q3q (mdlE e) (cvT (mdlE e) 0 (grow e)) (mxT (grow e)+2)).1:=by have hr:allT (fun l=>l.op=5->∀j,j < l.binds.length->l.ops[j]?=some 2) (grow e):=Qa6 (fun l hl=>hl.rc) _ (Qg6 h);have hN:=cvT_np (Qqe e) (grow e) 0 (ordT_at (grow e)) hr;unfold Q3q;have hT:=hN.T (mxT (grow e)+2+6) (mxT (grow e)+2+7) (mxT (grow e)+2+10);simp only[No]at hT;simp[No,appE,refE,letE,lamE,conE,allT,allTs,NoL,hT]
variable {Γ:List (Nat×List AC)}
theorem Q8r(h:IsTree e):Q1q e=false↔No (grow e):=by
 constructor
 ·intro he;refine Q83 h fun x hx=>?_;have h1:=Z15.1 he x hx;simp only[Z0s,beq_iff_eq,not_or]at h1;exact h1
 ·intro hn;refine Z15.2 fun x hx=>?_;have h1:=Qge h hn (labE e x) (Z34 (f:=labE e) hx);simp only[Z0s,beq_iff_eq,not_or];exact h1
theorem Q8q(h:IsTree e):Q1q (ordE e)=Q1q e:=by
 have h1:=Q8r h;have h2:=Q8r (Q45 (grow e));rw[Q33,←h1]at h2;unfold ordE;cases ha:Q1q e with
 |false=>exact h2.2 ha
 |true=>
  cases hb:Q1q (listT [] (grow e)) with
  |true=>rfl
  |false=>rw[h2.1 hb]at ha;cases ha
theorem Qkr(h:check e=0):Q1q (outE e)=false:=by unfold outE;rw[Q8r (Q45 _),Q33];exact out_no h
theorem Qof(h:(cvtE e).2=0):check e=0/\check (cvtE e).1=0/\Q1q (cvtE e).1=false/\(Q1q e=false->(cvtE e).1=ordE e):=by
 have hd:∀g:List Ex,cvtE e=(g,0)->check e=0->check g=0->Q1q g=false->(Q1q e=false->g=ordE e)->check e=0/\check (cvtE e).1=0/\Q1q (cvtE e).1=false/\(Q1q e=false->(cvtE e).1=ordE e):=fun g h1 h2 h3 h4 h5=>by rw[h1];exact⟨h2,h3,h4,h5⟩
 by_cases hc:check e≠0
 ·unfold cvtE at h;rw[if_pos hc]at h;exact absurd h hc
 have hc:check e=0:=by simpa using hc
 by_cases he:Q1q (ordE e)=false
 ·exact hd (ordE e) (by unfold cvtE;rw[if_neg (by simp[hc]),if_pos he]) hc (Q90 hc) he (fun _=>rfl)
 have hn:¬Q1q e=false:=by rw[←Q8q (Q0z hc)];exact he
 by_cases ht:Q5f (mdlE e) (ordE e)=true
 ·unfold cvtE at h;rw[if_neg (by simp[hc]),if_neg he,if_pos ht]at h;cases h
 by_cases hk:check (outE e)≠0
 ·unfold cvtE at h;rw[if_neg (by simp[hc]),if_neg he,if_neg ht,if_pos hk]at h;cases h
 exact hd (outE e) (by unfold cvtE;rw[if_neg (by simp[hc]),if_neg he,if_neg ht,if_neg hk]) hc (by simpa using hk) (Qkr hc) (fun h=>absurd h hn)
theorem Qr1(h:(cvtE e).2≠0):(cvtE e).1=[]:=by
 unfold cvtE at h ⊢;split
 ·rfl
 ·split
  ·rename_i h1 h2;rw[if_neg h1,if_pos h2]at h;exact absurd rfl h
  ·split
   ·rfl
   ·split
    ·rfl
    ·rename_i h1 h2 h3 h4;rw[if_neg h1,if_neg h2,if_neg h3,if_neg h4]at h;exact absurd rfl h
theorem Qm2(h:check e=0):same e (ordE e)=true:=by have h1:check (ordE e)=0:=Q90 h;have h2:grow (ordE e)=grow e:=Q33 _;simp[same,h,h1,h2,Qdf]
theorem Ql1(h:(cvtE e).2=0):cvtE (cvtE e).1=(ordE (cvtE e).1,0)/\same (cvtE e).1 (ordE (cvtE e).1)=true:=by obtain⟨_,h1,h2,_⟩:=Qof h;obtain⟨g,hg⟩:∃g,g=(cvtE e).1:=⟨_,rfl⟩;rw[←hg]at h1 h2 ⊢;refine⟨?_,Qm2 h1⟩;unfold cvtE;rw[if_neg (by simp[h1]),if_pos (by rw[Q8q (Q0z h1)];exact h2)]
theorem Qgz:okB []:=⟨⟨by simp,fun x hx=>by simp at hx⟩,fun x hx=>by simp at hx⟩
theorem okB_cvt(he:okB e)(hb:∀x∈e,x.binds.length+1<=1048576):okB (cvtE e).1:=by
 unfold cvtE;split
 ·exact Qgz
 ·rename_i hc;have hc:check e=0:=by simpa using hc
  split
  ·exact Qdm he hc
  ·split
   ·exact Qgz
   ·split
    ·exact Qgz
    ·exact Qit he hb hc
theorem Qhv(Qys:APure Tryz.prog Γt 16 [] (.one (.lit (.bool true))))(e:List Ex)(he:okB e)(hb:∀x∈e,x.binds.length+1<=1048576):
  APure Tryz.prog Γt 6 [.one (.sl 5 (e.map cEx))] (.one (.lit (.bool true))):=by
 intro ou;have hC:=Q94 e he fun _=>hb;have hok:=okB_cvt he hb;obtain⟨cv,hcv⟩:∃cv,cv=cvtE e:=⟨_,rfl⟩;rw[←hcv]at hC hok;refine zwk 35 Tryz.func6 fun hou=>?_;refine zA ?_;refine zca hΓt hC hou ?_;refine zA ?_;refine Qzs rfl (fun hc=>?_) (fun hc=>?_)
 ·have h0:cv.2≠0:=by simpa using hc
  have h1:cv.1=[]:=by rw[hcv]at h0 ⊢;exact Qr1 h0
  refine zA ?_;refine zca hΓt Qys hou ?_;refine zM ?_;exact Z07 rfl (Z5c (by rw[h1];rfl)) zsy hou rfl
 ·have h0:cv.2=0:=by simpa using hc
  have h1:=Ql1 (e:=e) (by rw[←hcv];exact h0);have h2:=Qof (e:=e) (by rw[←hcv];exact h0);rw[←hcv]at h1 h2;have hne:¬Q1q (ordE cv.1)=true:=by rw[Q8q (Q0z h2.2.1),h2.2.2.1];simp
  have hC2:=Q94 cv.1 hok fun h=>absurd h hne;rw[h1.1]at hC2;have hS:=APure.t (Same_ok cv.1 (ordE cv.1) hok (Qdm hok h2.2.1) h1.2);refine zA ?_;refine zca hΓt hC2 hou ?_;refine zA ?_;refine zca hΓt Qys hou ?_;refine zM ?_;refine zca hΓt hS hou ?_;refine zM ?_;exact Z07 rfl (Z5c rfl) zsy hou rfl
end Go.Proofs.YtlmokgooijbcdaaGreatDoor
namespace Go.CoreX
mutual
def alB (p:Lab->Bool):Tr->Bool
 |.mk o n b k a=>p ⟨o,n,b,k.map Tr.op,a⟩&&alsB p k
def alsB (p:Lab->Bool):List Tr->Bool
 |[]=>true
 |t::l=>alB p t&&alsB p l
end
mutual
def Qeo:Tr->List Int
 |.mk o n b k a=>if o=1 then n::Qa9 k else Qa9 k
def Qa9:List Tr->List Int
 |[]=>[]
 |t::l=>Qeo t++Qa9 l
end
mutual
theorem alB_ok{p:Lab->Bool}{W:Int->Prop}{q:Lab->Prop}(hp:∀l,p l=true->(l.op=1->W l.n)->q l):∀t:Tr,alB p t=true->(∀n∈Qeo t,W n)->allT q t
 |.mk o n b k a,h,hw=>by
  rw[alB,Z0k]at h;rw[Qeo]at hw;refine⟨hp _ h.1 fun ho=>?_,Qos hp k h.2 fun m hm=>?_⟩
  ·have ho:o=1:=ho;rw[if_pos ho]at hw;exact hw n zsy
  ·split at hw
   ·exact hw m (by simp[hm])
   ·exact hw m hm
theorem Qos{p:Lab->Bool}{W:Int->Prop}{q:Lab->Prop}(hp:∀l,p l=true->(l.op=1->W l.n)->q l):∀l:List Tr,alsB p l=true->(∀n∈Qa9 l,W n)->allTs q l
 |[],h,hw=>trivial
 |t::l,h,hw=>by rw[alsB,Z0k]at h;rw[Qa9]at hw;exact⟨alB_ok hp t h.1 fun n hn=>hw n (by simp[hn]),Qos hp l h.2 fun n hn=>hw n (by simp[hn])⟩
end
end Go.CoreX
namespace Go.Proofs.YtlmokgooijbcdaaGreatDoor
set_option maxRecDepth 100000
def leafB (l:Lab):Bool:=l.op==1&&(l.binds.isEmpty&&l.ops.isEmpty&&l.alts.isEmpty)
theorem Qqh{l:Lab}(h:leafB l=true):l=⟨1,l.n,[],[],[]⟩:=by obtain⟨o,n,b,k,a⟩:=l;simp only[leafB,Z0k,beq_iff_eq,List.isEmpty_iff]at h;obtain⟨rfl,⟨rfl,rfl⟩,rfl⟩:=h;rfl
theorem frag_of(h:alB (fun l=>leafB l||fragB false l) t=true)(hw:∀n∈Qeo t,inW n):allT (FragL false) t:=
 alB_ok (W:=inW) (fun l h1 h2=>by
  rw[Z0s]at h1;rcases h1 with h1|h1
  ·have h3:=Qqh h1;have h4:inW l.n:=h2 (by rw[h3]);rw[h3];exact Q1u (Qo4 h4)
  ·exact Qjj h1) t h hw
def mdlOf (cl:List Nat)(f:List FCl)(imp eff:List Bool)(up:Int):Mdl:=⟨fun i=>eff.getD i false,fun i=>imp.getD (rtOf cl i) false,fun i=>cnvN cl f imp i,up⟩
def outM (M:Mdl)(t:Tr):Tr:=(Q3q M (cvT M 0 t) (mxT t+2)).1
theorem cvtE_of{o:Tr}{f:List FCl}(n:Nat)(hc:check (listT [] t)=0)(he:Q1q (listT [] t)=true)(hs:(Qac (listT [] t) n).2=false)(hf:flowX (listT [] t) n=f)
  (hcl:Q9k (listT [] t).length f=cl) (hn:effN (listT [] t) cl f (2 * (listT [] t).length+3)=⟨imp,eff,false⟩) (ht:Q5f (mdlOf cl f imp eff (mxT t+1)) (listT [] t)=false)
  (hO:outM (mdlOf cl f imp eff (mxT t+1)) t=o) (hk:check (listT [] o)=0):cvtE (listT [] t)=(listT [] o,0)/\outE (listT [] t)=listT [] o:=by
 have hg:grow (listT [] t)=t:=Q33 t;have ho:ordE (listT [] t)=listT [] t:=by unfold ordE;rw[hg]
 have hfl:Q1h (listT [] t)=f:=by rw[Qqx (Q3c _) hs,hf]
 have hM:mdlE (listT [] t)=mdlOf cl f imp eff (mxT t+1):=by unfold mdlE planM mdlOf;rw[ho,hg,hfl,hcl];simp only[hn]
 have hO2:outE (listT [] t)=listT [] o:=by unfold outE;rw[hM,hg];unfold outM at hO;rw[hO]
 refine⟨?_,hO2⟩;unfold cvtE;rw[if_neg (by simp[hc]),if_neg (by rw[ho,he];simp),if_neg (by rw[ho,hM,ht];simp),if_neg (by rw[hO2,hk];simp),hO2]
theorem runs_of{fu:Int}(g:Nat){m:Ms}{v:Vl}(hc:check (listT [] t)=0)(hf:allT (FragL false) t)(hfu:1<=fu/\fu<=1000000)(hg:goX fu [] g ⟨.ev t .nil,[],[],0,[]⟩=some (.done m v))(ho:m.out.length<=1000)(hs:m.steps<=fu):RunsTo false fu (listT [] t) m v:=
 ⟨hc,by rw[Q33];exact hf,hfu,by rw[Q33];exact⟨g,hg,fun h=>by cases h⟩,ho,hs⟩
set_option maxRecDepth 100000
def twF:List FCl:=[(7,([],true)),(12,([],true))]
def twP:List Bool:=List.replicate 15 false++[true]
def twE:List Bool:=[false,false,true,true,false,false,false,true,false,false,false,false,true,true,true]
def twO:Tr:=outM (mdlOf (List.range 16) twF twP twE 4) Q4c
theorem Qi3:check (listT [] twO)=0:=by decide +kernel
theorem tw_cvt:cvtE (listT [] Q4c)=(listT [] twO,0)/\outE (listT [] Q4c)=listT [] twO:=
 cvtE_of (f:=twF) (cl:=List.range 16) (imp:=twP) (eff:=twE) 3
  Qbj zky zky zky zky zky zky zky Qi3
theorem tw_run:RunsTo false 3000 (listT [] twO) ⟨.rt (.word 11),[],[],107,[]⟩ (.word 11):=
 runs_of 200 Qi3 (frag_of zky (fun n hn=>by
  have h:Qeo twO=[5,1,5,3]:=by kernel_rfl
  rw[h]at hn;simp only[Z2w,Z3f,or_false]at hn;unfold inW;omega)) zoy zky zsy (by show (107:Int)<=3000;omega)
theorem runN_ok{mf:Ms}{vf:Vl}(he:okB e)(h:RunsTo false 3000 e mf vf):APure Tryz.prog Γc 41 [.one (.sl 5 (e.map cEx))] (.tup [.agg [.sl 1 (mf.out.map cI),int 0,int (lastV vf)],.one (.lit (.bool true))]):=by have hR:=Run_ok MoreC.no he h;intro ou;refine zwk 16 Tryz.func41 fun hou=>?_;refine zA ?_;refine zca hΓc hR hou ?_;refine zM ?_;exact Z07 rfl (Z5c rfl) zsy hou rfl
theorem Qi4:∀x∈listT [] Q4c,x.binds.length+1<=1048576:=by decide +kernel
theorem Ql3:APure Tryz.prog Γt 16 [] (.one (.lit (.bool true))):=by
 have hC:=Q94 (listT [] Q4c) Qfa (fun _=>Qi4);have hO:okB (listT [] twO):=by have h:=Qit Qfa Qi4 Qbj;rwa [tw_cvt.2]at h
 rw[tw_cvt.1]at hC;have hR:=APure.t (runN_ok hO tw_run);intro ou;refine zwk 25 Tryz.func16 fun hou=>?_;refine zA ?_;refine zca hΓt (Qp0 hΓt) hou ?_;refine zca hΓt hC hou ?_;refine zM ?_;refine zca hΓt hR hou ?_;refine zM ?_;exact Z07 rfl (Z5c rfl) zsy hou rfl
end Go.Proofs.YtlmokgooijbcdaaGreatDoor
