/- The base of this proof, part 8. No condition. -/
import Derived.Test.YtlmokgooijbcdaaGreatDoorD7
set_option maxRecDepth 10000
set_option maxHeartbeats 4000000
set_option linter.unusedVariables false
set_option linter.unusedSimpArgs false
open List renaming foldl_cons->Z3z,mem_singleton->Z5h,range_succ->Z5o
open Go Go.Abs Go.CoreX
variable {e:List Ex}{x:Ex}{l:List FCl}{i N:Nat}{n up:Int}{rt cl:List Nat}{imp eff:List Bool}{s:PSt}{alts:List Alt}{t:Tr}
namespace Go.CoreX
mutual
def mxT:Tr->Int
 |.mk o n b k a=>mxTs ((Q0h o b a).foldl max (-1)) k
def mxTs (m:Int):List Tr->Int
 |[]=>m
 |t::l=>mxTs (max m (mxT t)) l
end
theorem Qix:∀(l:List Tr)(m:Int),mxTs m l=(l.map mxT).foldl max m
 |[],_=>rfl
 |t::l,m=>by simp only[mxTs,Z4t,Z3z];exact Qix l _
theorem maxX_if(a b:Int):max a b=if b > a then b else a:=by rw[Int.max_def];split <;> split <;> omega
def mxLX (c:Int)(l:Lab):Prop:=∀n∈Q0h l.op l.binds l.alts,n<=c
theorem Qho(c:Int):∀(l:List Int)(m:Int),m<=c->(∀n∈l,n<=c)->l.foldl max m<=c
 |[],m,h,_=>h
 |x::l,m,h,hl=>by simp only[Z3z];have:=hl x zsy;exact Qho c l _ zoy fun n hn=>hl n (by simp[hn])
mutual
theorem mxT_le(c:Int)(hc:-1<=c):∀t:Tr,Go.CoreX.allT (mxLX c) t->mxT t<=c
 |.mk o n b k a,h=>by simp only[mxT];exact Qpa c hc k _ (Qho c _ _ hc h.1) h.2
theorem Qpa(c:Int)(hc:-1<=c):∀(l:List Tr)(m:Int),m<=c->Go.CoreX.allTs (mxLX c) l->mxTs m l<=c
 |[],m,h,_=>h
 |t::l,m,h,hl=>by simp only[mxTs];have:=mxT_le c hc t hl.1;exact Qpa c hc l _ zoy hl.2
end
theorem Qi3(h:Q18 false e x=0):∀b∈Q13 x,b<=1048575:=by
 have hr:ranges x=0:=by
  unfold Q18 at h;split at h
  ·cases h
  ·unfold Q2k at h;split at h
   ·cases h
   ·split at h
    ·rename_i hr;exact absurd h hr
    ·rename_i hr;simpa using hr
 have hx:x.binds.all Q40=true/\x.alts.all (Q4q x.op)=true:=by
  unfold ranges at hr;split at hr
  ·cases hr
  split at hr
  ·cases hr
  rename_i h1;split at hr
  ·cases hr
  rename_i h2;exact⟨by simpa using h1,by simpa using h2⟩
 have ok:∀n,Q40 n=true->n<=1048575:=fun n hn=>by simp[Q40,between]at hn;omega
 intro b hb;unfold Q13 Q0h at hb;rcases Z50.1 hb with hb|hb
 ·split at hb
  ·exact ok b (Z3b.1 hx.1 b hb)
  ·cases hb
 ·obtain⟨a,ha,hba⟩:=Z58.1 hb;have:=Z3b.1 hx.2 a ha;unfold Q4q at this;exact ok b (Z3b.1 (Bool.and_eq_true_iff.1 this).2 b hba)
theorem Qqz(h:check e=0):allT (mxLX 1048575) (grow e):=by obtain⟨_,p2,_,_⟩:=Q54 h;exact Q9i (Q1j h) fun x hx=>Qi3 (p2 x hx)
end Go.CoreX
namespace Go.Proofs.YtlmokgooijbcdaaGreatDoor
variable {Γ:List (Nat×List AC)}
theorem Qe9{l:List Int}{m:Int}(h:l[i]?=some n):(l.take (i+1)).foldl max m=if n > (l.take i).foldl max m then n else (l.take i).foldl max m:=by rw[Q0u h,Z3y];exact maxX_if _ _
def MxOk (Γ:List (Nat×List AC))(t:Tr):Prop:=Q09 Tryz.prog Γ 36 [.one (.box (cTr t))] (.one (int (mxT t)))
theorem Qm1(hΓ:GI Γ):∀t:Tr,okT t->MxOk Γ t
 |.mk o n b ks a,hok=>by
  have ih:∀t∈ks,MxOk Γ t:=fun t ht=>Qm1 hΓ t (Q3n.1 hok.2.2.2.2 t ht);have hk:ks.length<=1048576:=hok.2.1;have hbl:Q73 (.mk o n b ks a)<=4194304:=by have h1:=hok.1;have h2:=hok.2.2.2.1.2;unfold Q73;simp only[Tr.binds,Tr.alts];omega
  have hB:=Q7o hΓ (.mk o n b ks a) hbl hok.2.2.1;have hbn:(Q0h o b a).length<=4194304:=by
   unfold Q73 at hbl;simp only[Tr.binds,Tr.alts]at hbl;unfold Q0h;rw[Z4g];split
   ·exact hbl
   ·simp only[Z4l];omega
  have hm:mxT (.mk o n b ks a)=(ks.map mxT).foldl max ((Q0h o b a).foldl max (-1)):=by simp only[mxT,Qix]
  intro ou;rw[hm];clear hm;obtain⟨bn,hbe⟩:∃bn,bn=Q0h o b a:=⟨_,rfl⟩;rw[show Q0h (Tr.mk o n b ks a).op (Tr.mk o n b ks a).binds (Tr.mk o n b ks a).alts=bn from hbe.symm]at hB;rw[←hbe]at hbn ⊢;clear hbe hbl;refine zwk 34 Tryz.func36 fun hou=>?_;refine zA ?_;refine zca hΓ hB hou ?_;refine zA ?_;refine Qv6 hΓ (α:=Nat) (fun i=>[(11,.one (int i)),(10,.one (int (bn.map cI).length)),(9,.one (.sl 1 (bn.map cI))),(3,.one (int ((bn.take i).foldl max (-1)))),(0,.one (.box (cTr (.mk o n b ks a))))])
   (fun i=>⟨0,[],ou⟩) (fun m i=>i<=bn.length/\m=bn.length - i) (a0:=0) (ρ:=id) ⟨by omega,rfl⟩ (Z39 rfl zFS zsy zLO rfl rfl hou) fun m i hi=>?_
  obtain⟨hil,rfl⟩:=hi;refine zA ?_;refine Q00.cond rfl (fun hb3=>?_) (fun hb3=>?_)
  ·have Qz9:i < bn.length:=by simpa using hb3
   obtain⟨q,hn⟩:=Q02 Qz9;have hsm:=Qe9 (m:=-1) hn;refine zA ?_;refine zS (zIA rfl rfl rfl zoy (Q0f hn)) ?_;refine zM ?_;refine cInv ⟨bn.length - (i+1),i+1,id,by omega,⟨by omega,rfl⟩,?_⟩;simp only[hsm];exact Z39 rfl zFS zsy zLO rfl rfl hou
  have hlt:i=bn.length:=by simp at hb3;omega
  subst hlt;rw[Z5w];generalize bn.foldl max (-1)=m0;refine zA ?_;refine Qv6 hΓ (α:=Nat) (fun i=>[(24,.one (int i)),(23,.one (int (Q1a ks).length)),(22,.one (.sl 1 (Q1a ks))),(3,.one (int (((ks.map mxT).take i).foldl max m0)))])
   (fun i=>⟨0,[],ou⟩) (fun m i=>i<=ks.length/\m=ks.length - i) (a0:=0) (ρ:=id) ⟨by omega,rfl⟩ (Z39 rfl zFS zsy zLO rfl rfl hou) fun m i hi=>?_
  obtain⟨hil,rfl⟩:=hi;refine zA ?_;refine Q00.cond rfl (fun hb3=>?_) (fun hb3=>?_)
  ·have Qz9:i < ks.length:=by simpa using hb3
   obtain⟨t,ht⟩:=Q02 Qz9;have hsm:=Qe9 (l:=ks.map mxT) (n:=mxT t) (m:=m0) (i:=i) (by simp[ht]);refine zA ?_;refine zS (zIA rfl rfl rfl zoy (Q1x ht)) ?_;refine zA ?_;refine zca hΓ (ih t (Z5c ht)) hou ?_;refine zM ?_;refine cInv ⟨ks.length - (i+1),i+1,id,by omega,⟨by omega,rfl⟩,?_⟩;simp only[hsm];exact Z39 rfl zFS zsy zLO rfl rfl hou
  have hlt:i=ks.length:=by simp[Q0i]at hb3;omega
  subst hlt;rw[show (ks.map mxT).take ks.length=ks.map mxT from Z5x zsy];refine zA ?_;exact Q09.fin rfl (Z7h rfl) zsy hou rfl
end Go.Proofs.YtlmokgooijbcdaaGreatDoor
namespace Go.CoreX
mutual
theorem Q9m:∀t:Tr,szT t=cntN t
 |.mk o n b k a=>by simp only[szT,cntN,Qk6 k]
theorem Qk6:∀l:List Tr,szTs l=Q1q l
 |[]=>rfl
 |t::l=>by simp only[szTs,Q1q,Q9m t,Qk6 l]
end
end Go.CoreX
namespace Go.Proofs.YtlmokgooijbcdaaGreatDoor
theorem PlanO.mono{y:PLay}{ou ou':Q03}(h:PlanO e l y rt imp eff ou)(hs:∀k o,ou k=some o->ou' k=some o):PlanO e l y rt imp eff ou':=by obtain⟨ck,m,hm,him⟩:=h.c;obtain⟨cl,hu,hcl⟩:=h.l;exact⟨hs _ _ h.p,⟨ck,m,hs _ _ hm,him⟩,⟨cl,hu,hs _ _ hcl⟩,hs _ _ h.i,hs _ _ h.f,h.rl,h.il,h.fl,h.el,h.nd⟩
mutual
theorem Q7c:∀(t:LTr)(k:Nat),k∈Q3l t->k∈keys (objs t)
 |.mk i o n nb b ks a,k,h=>by
  simp only[Q3l,Z50,Z5h]at h;simp only[objs,keys,Z4t,Z4r,Z53,Z50,Z3g];rcases h with h|h
  ·exact .inr (.inr (Q5w ks k h))
  ·exact .inl h
theorem Q5w:∀(l:List LTr)(k:Nat),k∈Q16 l->k∈keys (Q46 l)
 |[],k,h=>by simp[Q16]at h
 |t::l,k,h=>by
  simp only[Q16,Z50]at h;simp only[Q46,keys,Z4r,Z50];rcases h with h|h
  ·exact .inl (Q7c t k h)
  ·exact .inr (Q5w l k h)
end
mutual
theorem Qc3:∀(t:LTr),(keys (objs t)).Nodup->(Q3l t).Nodup
 |.mk i o n nb b ks a,h=>by simp only[objs,keys,Z4t,Z4r,Z3g,Z5l]at h;simp only[Q3l];rw[Z5k];refine⟨Qaq ks (Z5k.1 h.2).2.1,by simp,fun x hx y hy e=>?_⟩;simp at hy;subst hy;subst e;exact h.1 (Z52 _ (Q5w ks x hx))
theorem Qaq:∀(l:List LTr),(keys (Q46 l)).Nodup->(Q16 l).Nodup
 |[],_=>by simp[Q16]
 |t::l,h=>by simp only[Q46,keys,Z4r]at h;obtain⟨h1,h2,h3⟩:=Z5k.1 h;simp only[Q16];rw[Z5k];exact⟨Qc3 t h1,Qaq l h2,fun x hx y hy=>h3 x (Q7c t x hx) y (Q5w l y hy)⟩
end
theorem Qhz(h:check e=0):allT ShL (grow e):=Q9i (Q1j h) fun x hx=>by
 have hs:=Qf2 h x hx;obtain⟨_,h2,_,_⟩:=Q54 h;have h3:=h2 x hx;refine⟨⟨⟨x.kids,by simp[labE],hs⟩⟩,fun h5 i hi=>?_⟩;simp only[labE]at h5 hi ⊢;have h4:Q2k e x=0:=by
  unfold Q18 at h3;split at h3
  ·cases h3
  ·exact h3
 unfold Q2k at h4;rw[if_neg (by rw[hs];simp)]at h4;split at h4
 ·exact absurd h4 (by assumption)
 split at h4
 ·cases h4
 ·rename_i _ hb;have hb:(List.range x.binds.length).any (Q26 e x)=false:=by simpa using hb
  have hb2:=Z3c.1 hb i (Z5f.2 hi);simp only[Q26,Z34,not_or]at hb2;have h6:=hb2.1;have hkl:x.kids.length=x.binds.length+1:=by have:ShN 5 x.n x.binds x.kids.length x.alts:=⟨⟨x.kids,rfl,by rw[←h5];exact hs⟩⟩;exact this.recs.1
  have hil:i < x.kids.length:=by omega
  have hkk:=Qfm (Q1j h).k hx _ (Z4f hil);have h7:x.kids.getD i 0=x.kids[i]:=by rw[Z42,Z47 hil];rfl
  rw[h7]at h6;rw[Z4a,Z47 hil,Z6x,Qiu e _ zoy];simpa[h5]using h6
theorem Qcu:∀(l:List Int)(m:Int),m<=l.foldl max m
 |[],m=>Z36 _
 |x::l,m=>by have:=Qcu l (max m x);simp only[Z3z];omega
theorem mxT_geC:∀t:Tr,-1<=mxT t
 |.mk o n b k a=>by have h1:=Qcu (Q0h o b a) (-1);have h2:=Qcu (k.map mxT) ((Q0h o b a).foldl max (-1));simp only[mxT,Qix];omega
theorem Qe0:∀(l:List Tr),l.length<=Q1q l
 |[]=>by simp[Q1q]
 |t::l=>by
  have h1:=Qe0 l;have h2:1<=cntN t:=by cases t;simp[cntN]
  simp only[Z4h,Q1q];omega
structure NdP (l:Lab):Prop where
 b:l.binds.length+1<=1048576
 a:l.alts.length<=1048576
 ab:∀x∈l.alts,x.binds.length<=1048576
 s:l.binds.length+(l.alts.flatMap (·.binds)).length<=4194304
 k13:l.op=13->2<=l.ops.length
mutual
theorem Qlx:∀(t:Tr),allT NdP t->cntN t<=4096->allT NdL t
 |.mk o n b k a,h,hc=>by simp only[allT]at h ⊢;simp only[cntN]at hc;have:=Qe0 k;exact⟨⟨h.1.b,h.1.a,h.1.ab,h.1.s,by simp only[Z4k];omega,h.1.k13⟩,Qi7 k h.2 zoy⟩
theorem Qi7:∀(l:List Tr),allTs NdP l->Q1q l<=4096->allTs NdL l
 |[],_,_=>trivial
 |t::l,h,hc=>by simp only[allTs]at h ⊢;simp only[Q1q]at hc;exact⟨Qlx t h.1 zoy,Qi7 l h.2 zoy⟩
end
theorem Q9f(h:check e=0):cntN (grow e)<=4096/\(Q0c [] (grow e)).length=cntN (grow e):=by have t1:=Q1j h;have h1:=Q53 (grow e) [];have h2:=Qbf t1;have h3:=(Q39 e).1 (Q54 h).1;simp only[Z4l]at h1;omega
theorem Qi0(he:okB e)(hb:∀x∈e,x.binds.length+1<=1048576)(h:check e=0):allT NdL (grow e):=by refine Qlx _ (Q9i (Q1j h) fun x hx=>?_) (Q9f h).1;have hs:=Qf2 h x hx;have hX:=he.eo.x x hx;exact⟨hb x hx,hX.a,hX.ab,he.b x hx,fun h13=>by have:ShN 13 x.n x.binds x.kids.length x.alts:=⟨⟨x.kids,rfl,by rw[←show x.op=13 from h13];exact hs⟩⟩;have:=this.handle;simp only[labE,Z4k];omega⟩
def ordE (e:List Ex):List Ex:=Q0c [] (grow e)
def mdlE (e:List Ex):Mdl:=planM (ordE e) (Q1z (ordE e)) (mxT (grow e)+1)
def outE (e:List Ex):List Ex:=Q0c [] (Q4l (mdlE e) (cvT (mdlE e) 0 (grow e)) (mxT (grow e)+2)).1
def cvtE (e:List Ex):List Ex×Int:=
 if check e≠0 then ([],check e)else if Q25 (ordE e)=false then (ordE e,0)else if Q6h (mdlE e) (ordE e)=true then ([],2)else if check (outE e)≠0 then ([],2)else (outE e,0)
theorem Qkv(he:okB e)(h:check e=0):okB (ordE e):=by have t1:=Q1j h;refine Qbe (Qcb _ (he.t t1.k t1.ne)) ?_;have h1:=Q53 (grow e) [];have h2:=Qbf t1;have h3:=he.eo.l;simp only[Z4l]at h1;omega
theorem Qku(he:okB e)(hb1:∀x∈e,x.binds.length+1<=1048576)(hc:check e=0):okB (outE e):=by have hRs:=Qc2 (mdlE e) (grow e) 0 (Qi0 he hb1 hc) (mxT (grow e)+2);have h1:=hRs.2;rw[Q9m]at h1;have h2:=(Q9f hc).1;exact Qbe (Qcb _ hRs.1) zoy
theorem Qeq(e:List Ex)(he:okB e)(hb1:Q25 (ordE e)=true->∀x∈e,x.binds.length+1<=1048576):Q09 Tryz.prog Γt 14 [.one (.sl 5 (e.map cEx))] (.tup [.one (.sl 5 ((cvtE e).1.map cEx)),.one (int (cvtE e).2)]):=by
 intro ou;have hCe:=Q09.t (Q66 e he);refine zwk 79 Tryz.func14 fun hou=>?_;refine zA ?_;refine zca hΓt hCe hou ?_;refine zA ?_;refine Q00.cond rfl (fun hb=>?_) (fun hb=>?_)
 ·have hc:check e≠0:=by simpa using hb
  have hR:cvtE e=([],check e):=by unfold cvtE;rw[if_pos hc]
  rw[hR];refine zA ?_;exact Q09.fin rfl (.tup (.cons (.one (.nilS 5)) (.cons (.refl _) .nil))) zsy hou rfl
 have hc:check e=0:=by simpa using hb
 have t1:=Q1j hc;have hG:=Qu5 hΓt e he.eo t1.k t1 ou;refine zA ?_;refine Qv3 hΓt rfl rfl rfl rfl rfl rfl rfl zsy hou hG fun r ou1 hq Qz6 Qzl=>?_;obtain⟨t,rfl,het,hpl,how,hnd,hnew,_,hold⟩:=hq;have hto:okT (erT t):=by rw[het];exact he.t t1.k t1.ne
 have hord:Q0c [] (erT t)=ordE e:=by rw[het];rfl
 have hco:=Qae hc;have hbo:=Qkv he hc;have hL:=Qu3 hΓt t hto hpl (by rw[hord];exact hbo.eo.l) ou1 how;rw[hord]at hL;have hcE:check (ordE e)=0:=hco;have hHe:=Qq6 hΓt (ordE e) hbo.eo.l;refine zA ?_;refine Z2j hΓt hL rfl rfl rfl rfl rfl rfl rfl Qzl zsy ?_;refine zA ?_;refine zca hΓt hHe Qzl ?_;cases hhe:Q25 (ordE e) with
 |false=>
  have hR:cvtE e=(ordE e,0):=by unfold cvtE;rw[if_neg (by simp[hc]),if_pos hhe]
  rw[hR];repeat ((fail_if_success ((with_reducible refine oj ?_);refine Qxs 3 rfl ?_));first|refine zO ?_)
  refine Qwr hold ?_;refine zM ?_;exact Q09.fin rfl (Z7h rfl) zsy hou rfl
 |true=>
  have hFE:=FE_of hbo hcE;have hAn:=Qnl hΓt (fun _ _ h=>h) hbo hcE hFE ou1;refine zM ?_;refine Qv3 hΓt rfl rfl rfl rfl rfl rfl rfl zsy Qzl hAn fun r ou2 hq Qz6 Qzs=>?_;obtain⟨y,rfl,hPl,Z0e,_,hfr2⟩:=hq;obtain⟨RT,hRT⟩:∃RT,RT=Qay (ordE e).length (Q1z (ordE e)):=⟨_,rfl⟩;obtain⟨EF,hEF⟩:∃EF,EF=effN (ordE e) RT (Q1z (ordE e)) (2 * (ordE e).length+3):=⟨_,rfl⟩;rw[←hRT,←hEF]at hPl;have hM:mdlE e=⟨fun i=>EF.eff.getD i false,fun i=>EF.imp.getD (rtOf RT i) false,fun i=>cnvN RT (Q1z (ordE e)) EF.imp i,mxT (grow e)+1⟩:=by rw[hEF,hRT];rfl
  have hpas:∀i,(mdlE e).pas i=EF.imp.getD (rtOf RT i) false:=fun i=>by rw[hM]
  have htm:Q6h (mdlE e) (ordE e)=true↔∃j x,(ordE e)[j]?=some x/\x.op=2/\(mdlE e).pas j=true/\5 < x.binds.length:=by
   unfold Q6h;rw[Z3d];constructor
   ·rintro⟨⟨x,j⟩,h1,h2⟩;rw[Z5i]at h1;simp only[Z2w,beq_iff_eq,decide_eq_true_eq]at h2;exact⟨j,x,h1,h2.1.1,h2.1.2,h2.2⟩
   ·rintro⟨j,x,h1,h2,h3,h4⟩;exact⟨(x,j),by rw[Z5i];exact h1,by simp[h2,h3,h4]⟩
  have Qzt:∀j o,ou j=some o->ou2 j=some o:=fun j o h=>by have h1:=hold j o h;rw[Z0e j (by rw[h1];simp)];exact h1
  have hbl:=hbo.eo.l;refine zA ?_;refine Qv6 hΓt (α:=Nat) (fun c=>[(30,.one (int (c:Nat))),(29,.one (int ((ordE e).map cEx).length)),(28,.one (.sl 5 ((ordE e).map cEx))),(7,.one (.ptr (.o y.kp) 0)),(6,.one (.sl 5 ((ordE e).map cEx))),(5,.one (.ptr (.o t.id) 0))]) (fun c=>⟨0,[],ou2⟩)
   (fun m c=>c<=(ordE e).length/\(∀j x,j < c->(ordE e)[j]?=some x->¬(x.op=2/\(mdlE e).pas j=true/\5 < x.binds.length))/\m=(ordE e).length - c) (a0:=0) (ρ:=_root_.id) ⟨by omega,fun j x h=>by omega,rfl⟩
   (Z39 rfl zFS zsy zLO rfl rfl Qzs) fun m c hcc=>?_
  obtain⟨hcl,hno,rfl⟩:=hcc;refine zA ?_;refine Q00.cond rfl (fun hb2=>?_) (fun hb2=>?_)
  ·have hlt:c < (ordE e).length:=by simpa using hb2
   obtain⟨x,hx⟩:=Q02 hlt;have hps:=Qgw hΓt hPl (i:=c) zoy;rw[←hpas c]at hps;have Z0q:¬(x.op=2/\(mdlE e).pas c=true/\5 < x.binds.length)->∀j z,j < c+1->(ordE e)[j]?=some z->¬(z.op=2/\(mdlE e).pas j=true/\5 < z.binds.length):=fun hn j z hj hz=>by
    by_cases ej:j=c
    ·subst ej;rw[hx]at hz;cases hz;exact hn
    ·exact hno j z zoy hz
   refine zA ?_;refine zS (zIA rfl rfl rfl zoy (Q0f hx)) ?_;repeat ((fail_if_success ((with_reducible refine oj ?_);refine Qxs 39 rfl ?_));first|refine zO ?_)
   by_cases h2:x.op=2
   ·refine Z2n 38 rfl (y:=.one (.lit (.bool true))) (.ofEq (by simp[h2])) ?_;repeat ((fail_if_success ((with_reducible refine oj ?_);refine Qxs 41 rfl ?_));first|refine zO ?_)
    refine Qv2 rfl rfl rfl rfl rfl (Q01.callK hΓt rfl rfl rfl zsy Qzs hps) ?_;cases hpv:(mdlE e).pas c with
    |false=>
     refine zM ?_;exact cInv ⟨(ordE e).length - (c+1),c+1,_root_.id,by omega,⟨by omega,Z0q (fun h=>by rw[hpv]at h;cases h.2.1),rfl⟩,Z39 rfl zFS zsy zLO rfl rfl Qzs⟩
    |true=>
     repeat ((fail_if_success ((with_reducible refine oj ?_);refine Qxs 48 rfl ?_));first|refine zO ?_)
     by_cases h5:5 < x.binds.length
     ·have hT:Q6h (mdlE e) (ordE e)=true:=htm.2 ⟨c,x,hx,h2,hpv,h5⟩;have hR:cvtE e=([],2):=by unfold cvtE;rw[if_neg (by simp[hc]),if_neg (by simp[hhe]),if_pos hT]
      rw[hR];refine Z2n 47 rfl (y:=.one (.lit (.bool true))) (.ofEq (by rw[decide_eq_true (show ((x.binds.map cI).length:Int) > 5 by rw[Z4k];omega)])) ?_;repeat ((fail_if_success ((with_reducible refine oj ?_);refine Qxs 3 rfl ?_));first|refine zO ?_)
      refine AOps.lessO ⟨1,[],ou⟩ rfl (fun i o ho=>?_) ?_
      ·cases i with
       |l k=>cases ho
       |o k=>exact Qzt k o ho
      refine zM ?_;exact Q09.fin rfl (.tup (.cons (.one (.nilS 5)) (.cons (.refl _) .nil))) zsy hou rfl
     ·refine Z2n 47 rfl (y:=.one (.lit (.bool false))) (.ofEq (by rw[decide_eq_false (show ¬((x.binds.map cI).length:Int) > 5 by rw[Z4k];omega)])) ?_;refine zM ?_;exact cInv ⟨(ordE e).length - (c+1),c+1,_root_.id,by omega,⟨by omega,Z0q (fun h=>h5 h.2.2),rfl⟩,Z39 rfl zFS zsy zLO rfl rfl Qzs⟩
   ·refine Z2n 38 rfl (y:=.one (.lit (.bool false))) (.ofEq (by simp[h2])) ?_;refine zM ?_;exact cInv ⟨(ordE e).length - (c+1),c+1,_root_.id,by omega,⟨by omega,Z0q (fun h=>h2 h.1),rfl⟩,Z39 rfl zFS zsy zLO rfl rfl Qzs⟩
  ·have hce:c=(ordE e).length:=by simp at hb2;omega
   have hT:Q6h (mdlE e) (ordE e)=false:=by
    cases h:Q6h (mdlE e) (ordE e) with
    |false=>rfl
    |true=>
     obtain⟨j,x,q1,q2⟩:=htm.1 h;exact absurd q2 (hno j x (by rw[hce];exact (Z49.1 q1).1) q1)
   have Z0v:Owns ou2 (objs t):=fun p hp=>by have h1:=how p hp;rw[Z0e p.1 (by rw[h1];simp)];exact h1
   have hmx:-1<=mxT (grow e)/\mxT (grow e)<=1048575:=⟨mxT_geC _,mxT_le 1048575 zoy _ (Qqz hc)⟩;have hMo:=Qm1 hΓt (erT t) hto;unfold MxOk at hMo;rw[het]at hMo;obtain⟨mx,hmxe⟩:∃mx,mx=mxT (grow e):=⟨_,rfl⟩;rw[←hmxe]at hMo hmx;have hLe:Qrg ⟨1,[(0,.map 0 [])],ou2⟩ (.one (.ptr (.o t.id) 0)) (.one (.box (cTr (grow e)))):=by rw[←het];exact Qxz Z0v
   refine zA ?_;refine zS (Q01.makeMap rfl) ?_;refine zA ?_;refine AOps.callS hΓt hMo (Plain.lit _) rfl rfl rfl rfl rfl rfl (.cons hLe .nil) ?_;refine zM ?_;refine Z2k [0,1,2] rfl zdy Qzs fun q hq=>⟨[(69,.one (.mp (.o q))),(65,.one (.ptr (.o t.id) 0)),(11,.one (.ptr (.o (q+2)) 0)),(10,.one (.ptr (.o (q+1)) 0)),(5,.one (.ptr (.o t.id) 0))],[],[.map 0 [],.cells [.ptr (.o y.kp) 0,.mp (.o q),int (mx+2),int (mx+2 - 1)],.cells [int 0]],.cons rfl rfl (.keepO rfl zsy (.cons rfl rfl (.cons rfl rfl (.keepO rfl zsy .nil)))),.nil,.cons rfl rfl (.cons rfl rfl (.cons rfl rfl .nil)),?_⟩;obtain⟨ou3,ho3⟩:∃ou3,ou3=Q1i ou2 q [.map 0 [],.cells [.ptr (.o y.kp) 0,.mp (.o q),int (mx+2),int (mx+2 - 1)],.cells [int 0]]:=⟨_,rfl⟩;have h3a:ou3 q=some (.map 0 []):=by rw[ho3];exact Q10 (ou:=ou2) (k:=q) 0
   have h3b:ou3 (q+1)=some (.cells [.ptr (.o y.kp) 0,.mp (.o q),int (mx+2),int (mx+2 - 1)]):=by rw[ho3];exact Q10 (ou:=ou2) (k:=q) 1
   have h3c:ou3 (q+2)=some (.cells [int 0]):=by rw[ho3];exact Q10 (ou:=ou2) (k:=q) 2
   have hlow:∀k o,ou2 k=some o->k < q/\ou3 k=some o:=fun k o h=>by have h1:=Q5x hq h;exact⟨h1,by rw[ho3,Q1l h1];exact h⟩
   have Qze:OuOk ou3:=by
    rw[ho3];refine Q7f Qzs fun o ho=>?_;simp only[Z53,Z5m,or_false]at ho;rcases ho with rfl|rfl|rfl
    ·exact fun p hp=>by simp at hp
    ·simp[AObj.ids,idsL,AC.ids,isO]
    ·simp[AObj.ids,idsL,AC.ids,isO]
   have Z1d:Owns ou3 (objs t):=fun p hp=>(hlow _ _ (Z0v p hp)).2;have hltk:∀k∈keys (objs t),k < q:=fun k hk=>by obtain⟨p,hp,rfl⟩:=Z5a.1 hk;exact (hlow _ _ (Z0v p hp)).1
   have Z1l:∀k∈Q3l t,k < q:=fun k hk=>hltk k (Q7c t k hk);have Z1e:Qrl ou3 (Q3l t):=fun k hk=>by obtain⟨p,hp,rfl⟩:=Z5a.1 (Q7c t k hk);obtain⟨cs,hcs⟩:=Q9u t p hp;exact⟨cs,by rw[Z1d p hp,hcs]⟩
   have hpn:=Qc3 t hnd;have Z2b:(Q3l t).length=(ordE e).length:=by rw[Qgu,Q9m,het];exact (Q9f hc).2.symm
   have Z2c:numO ou3 q (q+2) []=ou3:=by
    funext k;unfold numO;by_cases e1:q+2=k
    ·subst e1;rw[Q07,h3c];rfl
    ·rw[Q05 _ e1];by_cases e2:q=k
     ·subst e2;rw[Q07,h3a];rfl
     ·rw[Q05 _ e2]
   have hNu:=Qh4 hΓt t hpl hto ou3 q (q+2) [] Qze Z1d (by simpa using Z1e) (by simpa using hpn) (by simp;intro h;have:=Z1l q h;omega) (by simp;intro h;have:=Z1l (q+2) h;omega) zoy (by simp only[Z5j];omega);rw[Z2c,Z5j]at hNu;refine AOps.lessO ⟨3,[],ou3⟩ rfl (fun i o h=>?_) ?_
   ·cases i with
    |l j=>cases h
    |o j=>rw[ho3]at h;exact h
   refine zcd hΓt hNu ziy Qze fun Qzj=>?_;obtain⟨ou4,ho4⟩:∃ou4,ou4=numO ou3 q (q+2) (Q3l t):=⟨_,rfl⟩;rw[←ho4]at Qzj ⊢;have h4n:∀k,k≠q->k≠q+2->ou4 k=ou3 k:=fun k h1 h2=>by rw[ho4];exact Qce h1 h2
   have Z2d:∀k o,ou2 k=some o->ou4 k=some o:=fun k o h=>by obtain⟨h1,h2⟩:=hlow k o h;rw[h4n k zoy zoy];exact h2
   obtain⟨X,hX⟩:∃X:CvX,X=⟨ordE e,Q1z (ordE e),y,RT,EF.imp,EF.eff,Q3l t,q,q+1,mx+2 - 1,t⟩:=⟨_,rfl⟩;have hXM:X.M=mdlE e:=by rw[hX,hM,←hmxe];simp only[CvX.M];congr 1;omega
   have hCv:CvO X (mx+2) ou4:=by
    rw[hX];refine⟨hPl.mono Z2d,by rw[ho4];exact Qoz zoy,(show ou4 (q+1)=_ by rw[h4n (q+1) zoy zoy];exact h3b),fun k hk=>?_,fun p hp=>Z2d _ _ (Z0v p hp),hpn,Z2b,⟨fun h=>by have:=Z1l _ h;simp only at this;omega,by simp only;omega,fun h=>?_,fun h=>by have:=hltk _ h;simp only at this;omega⟩,Qqh _,Qzj⟩
    ·obtain⟨c,h⟩:=Z1e k hk;have:=Z1l k hk;exact⟨c,by rw[h4n k zoy zoy];exact h⟩
    ·simp only[Z53,Z5m,or_false]at h;have g1:=(hlow _ _ hPl.p).1;obtain⟨ck,m,gm,_⟩:=hPl.c;have g2:=(hlow _ _ gm).1;obtain⟨cl,_,gl⟩:=hPl.l;have g3:=(hlow _ _ gl).1;have g4:=(hlow _ _ hPl.i).1;have g5:=(hlow _ _ hPl.f).1;omega
   have hPt:PtO X 0 t:=by rw[hX];exact⟨⟨[],[],by simp,rfl⟩,fun p hp=>hp,hpl,hto,by rw[het];exact Qhz hc⟩
   have Qzh:=Q9f hc;have hszt:szT (erT t)<=4096:=by rw[Q9m,het];exact Qzh.1
   have hPr:=Qm9 hΓt hCv.u hPt (mx+2) zoy (by unfold lim;omega);obtain⟨R,hR⟩:∃R,R=Q4l (mdlE e) (cvT (mdlE e) 0 (grow e)) (mx+2):=⟨_,rfl⟩;unfold CvA at hPr;rw[Qtm hCv,hXM,het,←hR,hX]at hPr;have hoE:outE e=Q0c [] R.1:=by rw[hR,hmxe];rfl
   have hRs:=Qc2 (mdlE e) (grow e) 0 (Qi0 he (hb1 hhe) hc) (mx+2);rw[←hR]at hRs;have hRc:cntN R.1<=327680:=by have h1:=hRs.2;rw[Q9m]at h1;omega
   have hLo:=List_ok hΓt R.1 hRs.1 (by have:=Q53 R.1 [];simp only[Z4l]at this;omega);rw[←hoE]at hLo;have hbo2:okB (outE e):=by rw[hoE];exact Qbe (Qcb _ hRs.1) zoy
   have hCo:=Q09.t (Q66 (outE e) hbo2);refine zA ?_;refine zcd hΓt hPr ziy Qzj fun Qzp=>?_;refine zA ?_;refine zca hΓt hLo Qzp ?_;refine zA ?_;refine zca hΓt hCo Qzp ?_;have hend:∀k o,ou k=some o->cvO ⟨ordE e,Q1z (ordE e),y,RT,EF.imp,EF.eff,Q3l t,q,q+1,mx+2 - 1,t⟩ ou4 R.2 k=some o:=fun k o h=>by have h1:=Qzt k o h;have h2:=(hlow k o h1).1;unfold cvO;rw[Q05 _ (show q+1≠k by omega)];exact Z2d k o h1
   refine zA ?_;refine Q00.cond rfl (fun hb3=>?_) (fun hb3=>?_)
   ·have hc2:check (outE e)≠0:=by simpa using hb3
    have hR2:cvtE e=([],2):=by unfold cvtE;rw[if_neg (by simp[hc]),if_neg (by simp[hhe]),if_neg (by simp[hT]),if_pos hc2]
    rw[hR2];repeat ((fail_if_success ((with_reducible refine oj ?_);refine Qxs 3 rfl ?_));first|refine zO ?_)
    refine AOps.lessO ⟨3,[],ou⟩ rfl (fun i o ho=>?_) ?_
    ·cases i with
     |l k=>cases ho
     |o k=>exact hend k o ho
    refine zM ?_;exact Q09.fin rfl (.tup (.cons (.one (.nilS 5)) (.cons (.refl _) .nil))) zsy hou rfl
   ·have hc2:check (outE e)=0:=by simpa using hb3
    have hR2:cvtE e=(outE e,0):=by unfold cvtE;rw[if_neg (by simp[hc]),if_neg (by simp[hhe]),if_neg (by simp[hT]),if_neg (by simp[hc2])]
    rw[hR2];repeat ((fail_if_success ((with_reducible refine oj ?_);refine Qxs 3 rfl ?_));first|refine zO ?_)
    refine AOps.lessO ⟨3,[],ou⟩ rfl (fun i o ho=>?_) ?_
    ·cases i with
     |l k=>cases ho
     |o k=>exact hend k o ho
    refine zM ?_;exact Q09.fin rfl (Z7h rfl) zsy hou rfl
end Go.Proofs.YtlmokgooijbcdaaGreatDoor
namespace Go.CoreX
def idxs (i:Nat):List Tr->List Int
 |[]=>[]
 |t::ts=>(((i+szT t:Nat):Int) - 1)::idxs (i+szT t) ts
mutual
def AtE (e:List Ex)(i:Nat):Tr->Prop
 |.mk o n b k a=>e[i+szTs k]?=some ⟨o,n,b,idxs i k,a⟩/\AtEs e i k
def AtEs (e:List Ex)(i:Nat):List Tr->Prop
 |[]=>True
 |t::ts=>AtE e i t/\AtEs e (i+szT t) ts
end
theorem Qck(t:Tr)(out:List Ex):(Q0c out t).length=out.length+szT t:=by rw[Q9m];exact Q53 t out
theorem Qa0:∀(l:List Tr)(out:List Ex),(Q06 out l).1.length=out.length+szTs l
 |[],out=>by simp[Q06,szTs]
 |t::l,out=>by simp only[Q06,szTs,Qa0 l,Qck];omega
mutual
theorem Ql4:∀(t:Tr)(out post:List Ex),AtE (Q0c out t++post) out.length t
 |.mk o n b k a,out,post=>by obtain⟨h1,h2⟩:=Qh8 k out ([⟨o,n,b,(Q06 out k).2,a⟩]++post);simp only[AtE,Q0c];rw[Z3e];refine⟨?_,h1⟩;rw[Z44 (by rw[Qa0];exact Z6b _),Qa0,Z6i,h2];rfl
theorem Qh8:∀(l:List Tr)(out post:List Ex),AtEs ((Q06 out l).1++post) out.length l/\(Q06 out l).2=idxs out.length l
 |[],out,post=>⟨trivial,rfl⟩
 |t::l,out,post=>by
  obtain⟨h1,h2⟩:=Qh8 l (Q0c out t) post;rw[Qck]at h1 h2;have hpre:∃r,(Q06 (Q0c out t) l).1=Q0c out t++r:=Q9z l (Q0c out t);obtain⟨r,hr⟩:=hpre;refine⟨⟨?_,h1⟩,?_⟩
  ·simp only[Q06];rw[hr,Z3e];exact Ql4 t out (r++post)
  ·simp only[Q06,idxs,h2,Qck]
theorem Qpi:∀(t:Tr)(out:List Ex),∃r,Q0c out t=out++r
 |.mk o n b k a,out=>by obtain⟨r,hr⟩:=Q9z k out;refine⟨r++[⟨o,n,b,(Q06 out k).2,a⟩],?_⟩;simp only[Q0c];rw[hr,Z3e]
theorem Q9z:∀(l:List Tr)(out:List Ex),∃r,(Q06 out l).1=out++r
 |[],out=>⟨[],by simp[Q06]⟩
 |t::l,out=>by obtain⟨r1,h1⟩:=Qpi t out;obtain⟨r2,h2⟩:=Q9z l (Q0c out t);exact⟨r1++r2,by simp only[Q06];rw[h2,h1,Z3e]⟩
end
theorem ordT_at(t:Tr):AtE (Q0c [] t) 0 t:=by have:=Ql4 t [] [];rw[Z3f]at this;exact this
theorem Q5z{x:Ex}{eff:List Bool}{b:Bool}:∀{n:Nat},Q2l x eff n b=false->b=false/\∀k,k < n->¬(x.op=2∨(x.op=5/\k < x.binds.length))->eff.getD (x.kids.getD k 0).toNat false=false
 |0,h=>⟨by simpa[Q2l]using h,fun k hk=>by omega⟩
 |n+1,h=>by
  unfold Q2l at h;rw[Z5o,Z3y]at h;simp only[Z3z,List.foldl_nil]at h;by_cases hc:x.op=2∨(x.op=5/\n < x.binds.length)
  ·rw[if_pos hc]at h;obtain⟨h1,h2⟩:=Q5z (n:=n) h;exact⟨h1,fun k hk hn=>by
    by_cases e:k=n
    ·subst e;exact absurd hc hn
    ·exact h2 k zoy hn⟩
  ·rw[if_neg hc,Z33]at h;obtain⟨h1,h2⟩:=Q5z (n:=n) h.1;exact⟨h1,fun k hk hn=>by
    by_cases e:k=n
    ·subst e;exact h.2
    ·exact h2 k zoy hn⟩
structure FixN (M:Mdl)(i:Nat)(x:Ex):Prop where
 l:x.op=2->M.eff i=false/\(M.pas i=false->M.eff (x.kids.getD 0 0).toNat=false)
 o:x.op≠2->M.eff i=false->x.op≠12/\x.op≠13/\∀k,k < x.kids.length->¬(x.op=5/\k < x.binds.length)->M.eff (x.kids.getD k 0).toNat=false
theorem Qal{s0:PSt}{is:Bool}(h:Q68 s i is=s0)(hm:s0.moved=false):is=s.eff.getD i false/\s=s0:=by
 unfold Q68 at h;split at h
 ·rename_i hc;exact⟨hc,h⟩
 ·subst h;cases hm
theorem fix_of(hm:s.moved=false)(hx:e[i]?=some x)(h:Q42 e cl l s i=s):
  FixN ⟨fun i=>s.eff.getD i false,fun i=>s.imp.getD (rtOf cl i) false,fun i=>cnvN cl l s.imp i,up⟩ i x:=by
 have hg:e.getD i ⟨0,0,[],[],[]⟩=x:=by rw[Z42,hx];rfl
 unfold Q42 at h;rw[hg]at h;refine⟨fun h2=>?_,fun h2 hf=>?_⟩
 ·simp only[if_pos h2]at h;obtain⟨h3,h4⟩:=Qal h hm;rw[h4]at h3;refine⟨h3.symm,fun hp=>?_⟩;simp only at hp ⊢;unfold Q8v at h4;split at h4
  ·rw[←h4]at hm;cases hm
  ·rename_i hc;cases hk:s.eff.getD (x.kids.getD 0 0).toNat false with
   |false=>rfl
   |true=>exact absurd ⟨hk,hp⟩ hc
 ·simp only[if_neg h2]at h;obtain⟨h3,_⟩:=Qal h hm;simp only at hf;rw[hf]at h3;obtain⟨h4,h5⟩:=Q5z h3;unfold Q4b at h4;simp only[Z33,beq_eq_false_iff_ne]at h4;exact⟨h4.1.1,h4.1.2,fun k hk hn=>h5 k hk (fun hc=>hc.elim h2 hn)⟩
def NoL (l:Lab):Prop:=l.op≠12/\l.op≠13
abbrev No (t:Tr):Prop:=allT NoL t
abbrev NoS (l:List Tr):Prop:=allTs NoL l
structure NP (c:Cv):Prop where
 P:c.eff=false->∀s,No (c.P s).1
 F:c.op=2->∀s,No (c.F s).1
 T:∀k m s,No (c.T k m s).1
theorem Qdb{l r:List Tr}(h:NoS l)(k:NoS r):NoS (l++r):=Q5s.2 fun t ht=>(Z50.1 ht).elim (Q5s.1 h t) (Q5s.1 k t)
theorem Qp1:∀{l:List Cv},(∀c∈l,NP c)->(∀c∈l,c.eff=false)->∀s,NoS (mpP l s).1
 |[],_,_,s=>trivial
 |c::l,h,he,s=>⟨(h c zsy).P (he c zsy) s,Qp1 (fun c hc=>h c (by simp[hc])) (fun c hc=>he c (by simp[hc])) _⟩
theorem np_mpF:∀{l:List Cv},(∀c∈l,NP c)->(∀c∈l,c.op=2)->∀s,NoS (mpF l s).1
 |[],_,_,s=>trivial
 |c::l,h,he,s=>⟨(h c zsy).F (he c zsy) s,np_mpF (fun c hc=>h c (by simp[hc])) (fun c hc=>he c (by simp[hc])) _⟩
theorem np_mpK(k m:Int):∀{l:List Cv},(∀c∈l,NP c)->∀s,NoS (mpK k m l s).1
 |[],_,s=>trivial
 |c::l,h,s=>⟨(h c zsy).T k m s,np_mpK k m (fun c hc=>h c (by simp[hc])) _⟩
theorem Qda(o n:Int)(h:o≠12/\o≠13):No (.mk o n [] [] []):=⟨h,trivial⟩
theorem Qp0{fin:List Tr->Int->Int->Int->Tr×Int}(hfin:∀l k m s,NoS l->No (fin l k m s).1):∀{l:List Cv},(∀c∈l,NP c)->∀done k m s,NoS done->No (seqB fin l done k m s).1
 |[],_,done,k,m,s,hd=>hfin done k m s hd
 |c::l,h,done,k,m,s,hd=>by
  have hr:∀c∈l,NP c:=fun c hc=>h c (by simp[hc]);have hdn:∀x:Int,NoS (done++[refE x]):=fun x=>Qdb hd ⟨Qda 0 x zdy,trivial⟩;simp only[seqB];split
  ·rename_i ha;refine hfin _ k m _ (Qdb hd (Qp1 h (fun c hc=>?_) s));have:=Z3b.1 ha c hc;simpa using this
  ·split
   ·rename_i he;simp only[letE,No,allT,allTs];exact⟨⟨by simp[NoL],by simp[NoL]⟩,(h c zsy).P he _,Qp0 hfin hr _ _ _ _ (hdn s),trivial⟩
   ·unfold Q7s;simp only[letE,lamE,No,allT,allTs];exact⟨⟨by simp[NoL],by simp[NoL]⟩,⟨⟨by simp[NoL],by simp[NoL]⟩,Qp0 hfin hr _ _ _ _ (hdn s),trivial⟩,(h c zsy).T _ _ _,trivial⟩
theorem np_fin{cnv:Bool}{op:Int}{binds:List Int}{rest:List Cv}(h:∀c∈rest,NP c)(h13:op≠13)(l:List Tr)(k m s:Int)(hl:NoS l):No (finB up cnv op n binds alts rest l k m s).1:=by
 unfold finB;split
 ·exact⟨⟨by simp[NoL],by simp[NoL]⟩,Qdb hl (np_mpK k m h s)⟩
 ·split
  ·have hx:No (l.getD 0 default):=by
    cases l with
    |nil=>exact Qda 0 0 zdy
    |cons x l=>exact hl.1
   simp only[appE,refE,wordE,No,allT,allTs,NoL]at hx ⊢;exact⟨by decide,⟨by decide,trivial⟩,⟨by decide,trivial⟩,hx,⟨by decide,trivial⟩,⟨by decide,trivial⟩,trivial⟩
  ·split
   ·refine⟨⟨by simp[NoL],by simp[NoL]⟩,Qdb hl ?_⟩;simp[conE,refE,allT,allTs,NoL]
   ·rename_i h12 _;simp only[appE,refE,No,allT,allTs,NoL];exact⟨by decide,⟨by decide,trivial⟩,⟨⟨h12,h13⟩,hl⟩,⟨by decide,trivial⟩,trivial⟩
theorem Qdy{op v b h k2 m2:Int}:∀{l:List (Alt×Cv)},(∀p∈l,NP p.2)->∀(body:Tr)(s:Int),No body->No (Q1o op v b h k2 m2 l body s).1
 |[],_,body,s,hb=>hb
 |(a,c)::l,hl,body,s,hb=>by have h1:=(hl (a,c) zsy).T k2 m2 (s+2);simp only[Q1o];refine Qdy (fun p hp=>hl p (by simp[hp])) _ _ ?_;simp only[No]at hb h1;simp[-List.getD_eq_getElem?_getD,No,letE,lamE,appE,conE,refE,wordE,allT,allTs,NoL,hb,h1]
theorem Qlb:∀(l:List Tr)(i:Nat),(idxs i l).length=l.length
 |[],_=>rfl
 |t::l,i=>by simp[idxs,Qlb l]
theorem np_dflt:NP default:=⟨fun _ _=>Qda 0 0 zdy,fun _ _=>Qda 0 0 zdy,fun _ _ _=>Qda 0 0 zdy⟩
theorem Qmg{l:List Cv}(h:∀c∈l,NP c)(i:Nat):NP (l.getD i default):=by
 rw[Z42];cases hi:l[i]? with
 |none=>exact np_dflt
 |some c=>exact h c (Z5c hi)
theorem Qp2{ks:List Cv}(h:∀c∈ks,NP c)(k m s:Int):No (Q52 up alts ks k m s).1:=by unfold Q52;dsimp only;have hc:=Qdy (op:=s+1) (v:=s+2) (b:=s+3) (h:=s) (k2:=s+5) (m2:=s+6) (l:=((alts.drop 1).zip (ks.drop 2)).reverse) (fun p hp=>by obtain⟨a,c⟩:=p;have:=List.mem_reverse.1 hp;exact h c (Z5d (List.of_mem_zip this).2)) (Q2y up s (s+1) (s+2) (s+3) (s+5) (s+6) (s+7)).1 (Q2y up s (s+1) (s+2) (s+3) (s+5) (s+6) (s+7)).2 (by simp[Q2y,No,appE,refE,lamE,conE,allT,allTs,NoL]);generalize Q1o (s+1) (s+2) (s+3) s (s+5) (s+6) ((alts.drop 1).zip (ks.drop 2)).reverse _ _=cc at hc ⊢;have h0:=Qmg h 0;have h1:=Qmg h 1;obtain⟨c0,hc0⟩:∃c0,c0=ks.getD 0 default:=⟨_,rfl⟩;obtain⟨c1,hc1⟩:∃c1,c1=ks.getD 1 default:=⟨_,rfl⟩;rw[←hc0]at h0 ⊢;rw[←hc1]at h1 ⊢;unfold Q3j;have q1:=h1.T (cc.2+1+4) (cc.2+1+5) (cc.2+1+6);have q0:=h0.T (cc.2+1) cc.2 (c1.T (cc.2+1+4) (cc.2+1+5) (cc.2+1+6)).2;simp only[No]at hc q0 q1;simp[-List.getD_eq_getElem?_getD,No,letE,lamE,Q31,conE,refE,allT,allTs,NoL,hc,q0,q1]
mutual
theorem cvT_np{M:Mdl}{e:List Ex}(hM:∀i x,e[i]?=some x->FixN M i x):∀(t:Tr)(i:Nat),AtE e i t->allT (fun l=>l.op=5->∀j,j < l.binds.length->l.ops[j]?=some 2) t->NP (cvT M i t)
 |.mk op n binds kids alts,i,h,hr=>by
  simp only[AtE]at h;simp only[allT]at hr;have hk:=Qqu hM kids i h.2 hr.2;have hF:=hM _ _ h.1;have hks:∀c∈cvTs M i kids,NP c:=fun c hc=>by obtain⟨j,hj⟩:=Z59.1 hc;exact (hk j c hj).1
  have hkE:∀(j:Nat) (c:Cv),(cvTs M i kids)[j]?=some c->c.eff=M.eff ((idxs i kids).getD j 0).toNat:=fun j c hj=>(hk j c hj).2.1;have hkO:∀(j:Nat) (c:Cv),(cvTs M i kids)[j]?=some c->(kids.map Tr.op)[j]?=some c.op:=fun j c hj=>(hk j c hj).2.2.1;have hil:(idxs i kids).length=kids.length:=Qlb kids i;have hlam:∀c∈cvTs M i kids,c.op=2->c.eff=false:=fun c hc h2=>by obtain⟨j,hj⟩:=Z59.1 hc;exact (hk j c hj).2.2.2 h2
  have hfun:op=2->∀s,No (funB (M.pas (i+szTs kids)) binds ((cvTs M i kids).getD 0 default) s).1:=fun h2 s=>by
   unfold funB;have hx:=Qmg hks 0;split
   ·have:=hx.T (s+1) (s+2) (s+3);simp only[No]at this;simp[-List.getD_eq_getElem?_getD,No,lamE,Q31,refE,allT,allTs,NoL,this]
   ·rename_i hp;have hp:M.pas (i+szTs kids)=false:=by simpa using hp
    have he:((cvTs M i kids).getD 0 default).eff=false:=by
     rw[Z42];cases h0:(cvTs M i kids)[0]? with
     |none=>rfl
     |some c=>
      show c.eff=false;rw[hkE 0 c h0];exact (hF.l h2).2 hp
    have:=hx.P he s;simp only[No]at this;simp[-List.getD_eq_getElem?_getD,No,lamE,allT,allTs,NoL,this]
  have Qzn:M.eff (i+szTs kids)=false->∀s,No (Q7p (M.pas (i+szTs kids)) op n binds alts (cvTs M i kids) s).1:=fun he s=>by
   unfold Q7p;split
   ·rename_i h2;exact hfun h2 s
   ·rename_i h2;obtain⟨o1,o2,o3⟩:=hF.o h2 he;refine⟨⟨o1,o2⟩,Qp1 hks (fun c hc=>?_) s⟩;obtain⟨j,hj⟩:=Z59.1 hc;have hjl:j < (idxs i kids).length:=by have:=(Z49.1 hj).1;rw[Q1v]at this;omega
    by_cases h5:op=5/\j < binds.length
    ·have h6:=hr.1 h5.1 j h5.2;rw[hkO j c hj]at h6;exact hlam c hc (Z6y h6)
    ·rw[hkE j c hj];exact o3 j hjl h5
  simp only[cvT];refine⟨Qzn,hfun,fun k m s=>?_⟩;simp only[Qev];split
  ·rename_i he;have:=Qzn he s;simp only[No]at this;simp[-List.getD_eq_getElem?_getD,No,appE,refE,allT,allTs,NoL,this]
  ·split
   ·have h0:=Qmg hks 0;have h1:=Qmg hks 1;split
    ·rename_i hx;have q0:=h0.P hx s;have q1:=h1.T k m (((cvTs M i kids).getD 0 default).P s).2;simp only[No]at q0 q1;simp[-List.getD_eq_getElem?_getD,No,letE,allT,allTs,NoL,q0,q1]
    ·unfold Q7s;have q1:=h1.T k s (s+1);have q0:=h0.T (((cvTs M i kids).getD 1 default).T k s (s+1)).2 m ((((cvTs M i kids).getD 1 default).T k s (s+1)).2+1);simp only[No]at q0 q1;simp[-List.getD_eq_getElem?_getD,No,letE,lamE,allT,allTs,NoL,q0,q1]
   ·split
    ·rename_i h5;refine⟨⟨by simp[NoL],by simp[NoL]⟩,Qdb (np_mpF (fun c hc=>hks c (List.mem_of_mem_take hc)) (fun c hc=>?_) s) ⟨(Qmg hks _).T _ _ _,trivial⟩⟩;obtain⟨j,hj⟩:=Z59.1 hc;have hjl:j < binds.length:=by have:=(Z49.1 hj).1;rw[Z4p]at this;omega
     rw[Z4d hjl]at hj;have h6:=hr.1 h5 j hjl;rw[hkO j c hj]at h6;exact Z6y h6
    ·split
     ·exact Qp2 hks k m s
     ·rename_i h13;exact Qp0 (fun l k m s hl=>np_fin (fun c hc=>hks c (Z5d hc)) h13 l k m s hl) (fun c hc=>hks c (List.mem_of_mem_take hc)) [] k m s trivial
theorem Qqu{M:Mdl}{e:List Ex}(hM:∀i x,e[i]?=some x->FixN M i x):∀(l:List Tr)(i:Nat),AtEs e i l->allTs (fun l=>l.op=5->∀j,j < l.binds.length->l.ops[j]?=some 2) l->∀(j:Nat)(c:Cv),(cvTs M i l)[j]?=some c->NP c/\c.eff=M.eff ((idxs i l).getD j 0).toNat/\(l.map Tr.op)[j]?=some c.op/\(c.op=2->c.eff=false)
 |[],i,_,_,j,c,hj=>by simp[cvTs]at hj
 |t::ts,i,h,hr,j,c,hj=>by
  simp only[AtEs]at h;simp only[allTs]at hr;cases j with
  |zero=>
   simp only[cvTs,Z45,Z6z]at hj;subst hj;refine⟨cvT_np hM t i h.1 hr.1,?_,?_,?_⟩
   ·cases t with
    |mk o n b k a=>
     simp only[cvT,idxs,Z41,szT];congr 1;omega
   ·cases t with
    |mk o n b k a=>simp[cvT,Tr.op]
   ·cases t with
    |mk o n b k a=>
     simp only[AtE]at h;exact fun h2=>((hM _ _ h.1.1).l h2).1
  |succ j=>
   simp only[cvTs,List.getElem?_cons_succ]at hj;obtain⟨q1,q2,q3,q4⟩:=Qqu hM ts (i+szT t) h.2 hr.2 j c hj;exact⟨q1,by simpa[idxs]using q2,by simpa using q3,q4⟩
end
theorem Qog(h0:0 < N)(h:∀r∈rt,r < N)(i:Nat):rtOf rt i < N:=by
 unfold rtOf;rw[Z42];cases hi:rt[i]? with
 |none=>exact h0
 |some r=>exact h r (Z5c hi)
theorem Qfo(h0:0 < N)(h:∀r∈rt,r < N)(i j:Nat):∀r∈Q7r rt i j,r < N:=fun r hr=>by
 unfold Q7r at hr;obtain⟨x,hx,rfl⟩:=Z5a.1 hr;split
 ·exact Qog h0 h j
 ·exact h x hx
theorem Qt4{m:Nat}{c:FCl}(h0:0 < N)(h:∀r∈rt,r < N)(f:Nat):∀r∈Qdi m c rt f,r < N:=by
 unfold Qdi;split
 ·exact Qfo h0 (Qfo h0 h _ _) _ _
 ·exact Qfo h0 h _ _
theorem Qqx(m:Nat)(l:List FCl):∀i,i < m->(Qay m l).getD i 0 < m+1:=by
 have h1:∀(fs:List Nat) (c:FCl) (rt:List Nat),(∀r∈rt,r < m+1)->∀r∈fs.foldl (Qdi m c) rt,r < m+1:=by
  intro fs c
  induction fs with
  |nil=>intro rt h;exact h
  |cons f fs ih=>intro rt h;exact ih _ (Qt4 zoy h f)
 have h2:∀(l:List FCl) (rt:List Nat),(∀r∈rt,r < m+1)->∀r∈l.foldl (Qj2 m) rt,r < m+1:=by
  intro l
  induction l with
  |nil=>intro rt h;exact h
  |cons c l ih=>intro rt h;exact ih _ (h1 c.2.1 c rt h)
 exact fun i hi=>Qog zoy (h2 l (List.range (m+1)) fun r hr=>by simpa using hr) i
theorem Qef{e:List Ex}{cl:List Nat}{l:List FCl}{s:PSt}:∀n,(∀i,i < n->Q42 e cl l s i=s)->Q1u e cl l n s=s
 |0,_=>rfl
 |n+1,h=>by
  have:Q1u e cl l (n+1) s=Q42 e cl l (Q1u e cl l n s) n:=by simp[Q1u,Z5o]
  rw[this,Qef n fun i hi=>h i zoy];exact h n zoy
end Go.CoreX
namespace Go.Proofs.YtlmokgooijbcdaaGreatDoor
theorem Qeh{e:List Ex}{cl:List Nat}{l:List FCl}(hcl:∀i,i < e.length->cl.getD i 0 < e.length+1):∀n,(effN e cl l n).moved=false->∀i,i < e.length->Q42 e cl l (effN e cl l n) i=effN e cl l n
 |0,h=>by simp[effN,eff0]at h
 |n+1,h=>by
  simp only[effN]at h ⊢;split at h
  ·rename_i hm;have h1:=(Qg2 hcl (l:=l) n).1;have h2:EffI e cl l ⟨(effN e cl l n).imp,(effN e cl l n).eff,false⟩:=⟨h1.il,h1.fl,h1.g⟩;unfold Q99 at h;have h3:=Q98 h2 hcl e.length (Z6b _) h rfl;have h4:=Qef e.length h3;unfold Q99;rw[if_pos hm,h4];exact h3
  ·rename_i hm;rw[if_neg hm];exact Qeh hcl n h
theorem Qsu(e:List Ex):∀i x,(ordE e)[i]?=some x->FixN (mdlE e) i x:=fun i x hx=>by have hcl:=Qqx (ordE e).length (Q1z (ordE e));have hm:=Qtk (l:=Q1z (ordE e)) hcl;exact fix_of hm hx (Qeh hcl _ hm i (Z49.1 hx).1)
theorem out_no(h:check e=0):No (Q4l (mdlE e) (cvT (mdlE e) 0 (grow e)) (mxT (grow e)+2)).1:=by have hr:allT (fun l=>l.op=5->∀j,j < l.binds.length->l.ops[j]?=some 2) (grow e):=Qbo (fun l hl=>hl.rc) _ (Qhz h);have hN:=cvT_np (Qsu e) (grow e) 0 (ordT_at (grow e)) hr;unfold Q4l;have hT:=hN.T (mxT (grow e)+2+6) (mxT (grow e)+2+7) (mxT (grow e)+2+10);simp only[No]at hT;simp[No,appE,refE,letE,lamE,conE,allT,allTs,NoL,hT]
variable {Γ:List (Nat×List AC)}
theorem Qu6(hΓ:GI Γ)(gf:Nat)(caps:List AC)(hcap:idsL isO caps)(p:Ex->Bool)(xs:List Ex)(hx:xs.length<=1048576)(hf:∀a∈xs,Q09 Tryz.prog Γ gf (.agg (cEx a)::caps.map .one) (.one (.lit (.bool (p a))))):
  Q09 Tryz.prog Γ 43 [.one (.sl 5 (xs.map cEx)),.one (.fn (.func gf) [] caps)] (.one (int (idxOf p xs))):=by
 intro ou;refine zwk 19 Tryz.func43 fun hou=>?_;refine zA ?_;refine Qv6 hΓ (α:=Nat) (fun j=>[(8,.one (int j)),(7,.one (int (xs.map cEx).length)),(1,.one (.fn (.func gf) [] caps)),(0,.one (.sl 5 (xs.map cEx)))])
  (fun j=>⟨0,[],ou⟩) (fun m j=>j<=xs.length/\(∀x∈xs.take j,p x=false)/\m=xs.length - j) (a0:=0) (ρ:=id) ⟨by omega,by simp,rfl⟩ (Z39 rfl ?_ ?_ zLO rfl rfl hou) fun m j hj=>?_
 ·refine .cons rfl (.ofEq rfl) (.cons rfl (.ofEq rfl) (.consP rfl (.ofEq rfl) (by simp[hcap]) (.consP rfl (.ofEq rfl) zsy .nil)))
 ·simp[Q1f Q88 caps hcap]
 obtain⟨hjl,hno,rfl⟩:=hj;refine zA ?_;refine Q00.cond rfl (fun hb2=>?_) (fun hb2=>?_)
 ·have hlt:j < xs.length:=by simpa using hb2
  obtain⟨a,ha⟩:=Q02 hlt;have hca:=hf a (Z5c ha);refine zA ?_;refine zS (zIA rfl rfl rfl zoy (by simpa using Q0f ha)) ?_;refine zA ?_;refine Qvd hΓ hca rfl rfl rfl rfl rfl rfl rfl hou (by simp[Qhj hcap]) ?_;refine zA ?_;refine Q00.cond rfl (fun hb3=>?_) (fun hb3=>?_)
  ·refine zA ?_;refine Q09.fin rfl (Z7h ?_) zsy hou rfl;rw[Qbi hno ha hb3]
  ·refine zA ?_;refine zS (Qus rfl rfl rfl (.inl ⟨rfl,rfl⟩) zI) ?_;refine zA ?_;refine cInv ⟨xs.length - (j+1),j+1,id,by omega,⟨by omega,Q2a hno ha hb3,rfl⟩,Z39 rfl ?_ ?_ zLO rfl rfl hou⟩
   ·refine .cons rfl (.ofEq rfl) (.cons rfl (.ofEq rfl) (.consP rfl (.ofEq rfl) (by simp[hcap]) (.consP rfl (.ofEq rfl) zsy .nil)))
   ·simp[Q1f Q88 caps hcap]
 ·have hlt:j=xs.length:=by simp at hb2;omega
  subst hlt;rw[Z5w]at hno;refine zA ?_;refine Q09.fin rfl (Z7h ?_) zsy hou rfl;rw[Q7g hno]
theorem Qu7(hΓ:GI Γ)(gf:Nat)(caps:List AC)(hcap:idsL isO caps)(p:Ex->Bool)(xs:List Ex)(hx:xs.length<=1048576)(hf:∀a∈xs,Q09 Tryz.prog Γ gf (.agg (cEx a)::caps.map .one) (.one (.lit (.bool (p a))))):
  Q09 Tryz.prog Γ 19 [.one (.sl 5 (xs.map cEx)),.one (.fn (.func gf) [] caps)] (.one (.lit (.bool (xs.any p)))):=by
 intro ou;refine zwk 9 Tryz.func19 fun hou=>?_;refine zA ?_;refine Qvd hΓ (Qu6 hΓ gf caps hcap p xs hx hf) rfl rfl rfl rfl rfl rfl rfl hou (by simp[hcap]) ?_;refine zA ?_;refine Q09.fin rfl (Z7h ?_) zsy hou rfl;rw[←Qcp]
theorem phFn_ok(x:Ex):Q09 Tryz.prog Γ 17 [.agg (cEx x)] (.one (.lit (.bool (x.op==12||x.op==13)))):=by
 intro ou;refine zwk 11 Tryz.func17 fun hou=>?_;repeat ((fail_if_success ((with_reducible refine oj ?_);refine Qxs 7 rfl ?_));first|refine zO ?_)
 by_cases h12:x.op=12
 ·refine Z2n 6 rfl (y:=.one (.lit (.bool true))) (.ofEq (by simp[h12])) ?_;refine zM ?_;exact Q09.fin rfl (Z7h (by simp[h12])) zsy hou rfl
 ·refine Z2n 6 rfl (y:=.one (.lit (.bool false))) (.ofEq (by simp[h12])) ?_;refine zM ?_;exact Q09.fin rfl (Z7h (by simp[h12])) zsy hou rfl
theorem Qkk(hΓ:GI Γ)(e:List Ex)(he:e.length<=1048576):Q09 Tryz.prog Γ 19 [.one (.sl 5 (e.map cEx)),.one (.fn (.func 17) [] [])] (.one (.lit (.bool (Q25 e)))):=
 Qu7 hΓ _ [] trivial (fun x=>x.op==12||x.op==13) e he fun x _=>phFn_ok x
theorem Qa5(h:IsTree e):Q25 e=false↔No (grow e):=by
 constructor
 ·intro he;refine Q9i h fun x hx=>?_;have h1:=Z3c.1 he x hx;simp only[Z34,beq_iff_eq,not_or]at h1;exact h1
 ·intro hn;refine Z3c.2 fun x hx=>?_;have h1:=Qi8 h hn (labE e x) (Z5b (f:=labE e) hx);simp only[Z34,beq_iff_eq,not_or];exact h1
theorem Qmz(h:IsTree e):Q25 (ordE e)=Q25 e:=by
 have h1:=Qa5 h;have h2:=Qa5 (Q51 (grow e));rw[Q3s,←h1]at h2;unfold ordE;cases ha:Q25 e with
 |false=>exact h2.2 ha
 |true=>
  cases hb:Q25 (Q0c [] (grow e)) with
  |true=>rfl
  |false=>rw[h2.1 hb]at ha;cases ha
theorem Qmy(h:check e=0):Q25 (outE e)=false:=by unfold outE;rw[Qa5 (Q51 _),Q3s];exact out_no h
theorem cvtE_ok(h:(cvtE e).2=0):check e=0/\check (cvtE e).1=0/\Q25 (cvtE e).1=false/\(Q25 e=false->(cvtE e).1=ordE e):=by
 have hd:∀g:List Ex,cvtE e=(g,0)->check e=0->check g=0->Q25 g=false->(Q25 e=false->g=ordE e)->check e=0/\check (cvtE e).1=0/\Q25 (cvtE e).1=false/\(Q25 e=false->(cvtE e).1=ordE e):=fun g h1 h2 h3 h4 h5=>by rw[h1];exact⟨h2,h3,h4,h5⟩
 by_cases hc:check e≠0
 ·unfold cvtE at h;rw[if_pos hc]at h;exact absurd h hc
 have hc:check e=0:=by simpa using hc
 by_cases he:Q25 (ordE e)=false
 ·exact hd (ordE e) (by unfold cvtE;rw[if_neg (by simp[hc]),if_pos he]) hc (Qae hc) he (fun _=>rfl)
 have hn:¬Q25 e=false:=by rw[←Qmz (Q1j hc)];exact he
 by_cases ht:Q6h (mdlE e) (ordE e)=true
 ·unfold cvtE at h;rw[if_neg (by simp[hc]),if_neg he,if_pos ht]at h;cases h
 by_cases hk:check (outE e)≠0
 ·unfold cvtE at h;rw[if_neg (by simp[hc]),if_neg he,if_neg ht,if_pos hk]at h;cases h
 exact hd (outE e) (by unfold cvtE;rw[if_neg (by simp[hc]),if_neg he,if_neg ht,if_neg hk]) hc (by simpa using hk) (Qmy hc) (fun h=>absurd h hn)
theorem Qtl(h:(cvtE e).2≠0):(cvtE e).1=[]:=by
 unfold cvtE at h ⊢;split
 ·rfl
 ·split
  ·rename_i h1 h2;rw[if_neg h1,if_pos h2]at h;exact absurd rfl h
  ·split
   ·rfl
   ·split
    ·rfl
    ·rename_i h1 h2 h3 h4;rw[if_neg h1,if_neg h2,if_neg h3,if_neg h4]at h;exact absurd rfl h
theorem Qoc(h:check e=0):same e (ordE e)=true:=by have h1:check (ordE e)=0:=Qae h;have h2:grow (ordE e)=grow e:=Q3s _;simp[same,h,h1,h2,Qf4]
theorem Qiw:okB []:=⟨⟨by simp,fun x hx=>by simp at hx⟩,fun x hx=>by simp at hx⟩
theorem okB_cvt(he:okB e)(hb:∀x∈e,x.binds.length+1<=1048576):okB (cvtE e).1:=by
 unfold cvtE;split
 ·exact Qiw
 ·rename_i hc;have hc:check e=0:=by simpa using hc
  split
  ·exact Qkv he hc
  ·split
   ·exact Qiw
   ·split
    ·exact Qiw
    ·exact Qku he hb hc
theorem Qjv(Z1f:Q09 Tryz.prog Γt 16 [] (.one (.lit (.bool true))))(e:List Ex)(he:okB e)(hb:∀x∈e,x.binds.length+1<=1048576):
  Q09 Tryz.prog Γt 5 [.one (.sl 5 (e.map cEx))] (.one (.lit (.bool true))):=by
 intro ou;have hC:=Qeq e he fun _=>hb;have hok:=okB_cvt he hb;obtain⟨cv,hcv⟩:∃cv,cv=cvtE e:=⟨_,rfl⟩;rw[←hcv]at hC hok;refine zwk 41 Tryz.func5 fun hou=>?_;refine zA ?_;refine zca hΓt hC hou ?_;refine zA ?_;refine Q00.cond rfl (fun hc=>?_) (fun hc=>?_)
 ·have h0:cv.2≠0:=by simpa using hc
  have h1:cv.1=[]:=by rw[hcv]at h0 ⊢;exact Qtl h0
  refine zA ?_;refine zca hΓt Z1f hou ?_;refine zM ?_;exact Q09.fin rfl (Z7h (by rw[h1];rfl)) zsy hou rfl
 ·have h0:cv.2=0:=by simpa using hc
  have h2:=cvtE_ok (e:=e) (by rw[←hcv];exact h0);rw[←hcv]at h2;have hCk:=Q09.t (Q66 cv.1 hok);rw[h2.2.1]at hCk;have hH1:=Qkk hΓt cv.1 hok.eo.l;rw[h2.2.2.1]at hH1;have hH2:=Qkk hΓt e he.eo.l;refine zA ?_;refine zca hΓt Z1f hou ?_;refine zM ?_;refine zca hΓt hCk hou ?_;refine zM ?_;refine zca hΓt hH1 hou ?_;refine zM ?_;refine zca hΓt hH2 hou ?_;cases hh:Q25 e with
  |true=>
   refine zM ?_;exact Q09.fin rfl (Z7h rfl) zsy hou rfl
  |false=>
   have hS:=Q09.t (Same_ok e cv.1 he hok (by rw[h2.2.2.2 hh];exact Qoc h2.1));refine zM ?_;refine zca hΓt hS hou ?_;refine zM ?_;exact Q09.fin rfl (Z7h rfl) zsy hou rfl
end Go.Proofs.YtlmokgooijbcdaaGreatDoor
namespace Go.CoreX
mutual
def alB (p:Lab->Bool):Tr->Bool
 |.mk o n b k a=>p ⟨o,n,b,k.map Tr.op,a⟩&&alsB p k
def alsB (p:Lab->Bool):List Tr->Bool
 |[]=>true
 |t::l=>alB p t&&alsB p l
end
mutual
def Qgf:Tr->List Int
 |.mk o n b k a=>if o=1 then n::Qbs k else Qbs k
def Qbs:List Tr->List Int
 |[]=>[]
 |t::l=>Qgf t++Qbs l
end
mutual
theorem alB_ok{p:Lab->Bool}{W:Int->Prop}{q:Lab->Prop}(hp:∀l,p l=true->(l.op=1->W l.n)->q l):∀t:Tr,alB p t=true->(∀n∈Qgf t,W n)->allT q t
 |.mk o n b k a,h,hw=>by
  rw[alB,Z2w]at h;rw[Qgf]at hw;refine⟨hp _ h.1 fun ho=>?_,Qr5 hp k h.2 fun m hm=>?_⟩
  ·have ho:o=1:=ho;rw[if_pos ho]at hw;exact hw n zsy
  ·split at hw
   ·exact hw m (by simp[hm])
   ·exact hw m hm
theorem Qr5{p:Lab->Bool}{W:Int->Prop}{q:Lab->Prop}(hp:∀l,p l=true->(l.op=1->W l.n)->q l):∀l:List Tr,alsB p l=true->(∀n∈Qbs l,W n)->allTs q l
 |[],h,hw=>trivial
 |t::l,h,hw=>by rw[alsB,Z2w]at h;rw[Qbs]at hw;exact⟨alB_ok hp t h.1 fun n hn=>hw n (by simp[hn]),Qr5 hp l h.2 fun n hn=>hw n (by simp[hn])⟩
end
end Go.CoreX
namespace Go.Proofs.YtlmokgooijbcdaaGreatDoor
set_option maxRecDepth 100000
def leafB (l:Lab):Bool:=l.op==1&&(l.binds.isEmpty&&l.ops.isEmpty&&l.alts.isEmpty)
theorem Qsy{l:Lab}(h:leafB l=true):l=⟨1,l.n,[],[],[]⟩:=by obtain⟨o,n,b,k,a⟩:=l;simp only[leafB,Z2w,beq_iff_eq,List.isEmpty_iff]at h;obtain⟨rfl,⟨rfl,rfl⟩,rfl⟩:=h;rfl
theorem frag_of(h:alB (fun l=>leafB l||Qte false l) t=true)(hw:∀n∈Qgf t,inW n):allT (FragL false) t:=
 alB_ok (W:=inW) (fun l h1 h2=>by
  rw[Z34]at h1;rcases h1 with h1|h1
  ·have h3:=Qsy h1;have h4:inW l.n:=h2 (by rw[h3]);rw[h3];exact Q2f (Qqg h4)
  ·exact Qll h1) t h hw
def Qpg (cl:List Nat)(f:List FCl)(imp eff:List Bool)(up:Int):Mdl:=⟨fun i=>eff.getD i false,fun i=>imp.getD (rtOf cl i) false,fun i=>cnvN cl f imp i,up⟩
def outM (M:Mdl)(t:Tr):Tr:=(Q4l M (cvT M 0 t) (mxT t+2)).1
theorem cvtE_of{o:Tr}{f:List FCl}(n:Nat)(hc:check (Q0c [] t)=0)(he:Q25 (Q0c [] t)=true)(hs:(Qbv (Q0c [] t) n).2=false)(hf:flowX (Q0c [] t) n=f)
  (hcl:Qay (Q0c [] t).length f=cl) (hn:effN (Q0c [] t) cl f (2 * (Q0c [] t).length+3)=⟨imp,eff,false⟩) (ht:Q6h (Qpg cl f imp eff (mxT t+1)) (Q0c [] t)=false)
  (hO:outM (Qpg cl f imp eff (mxT t+1)) t=o) (hk:check (Q0c [] o)=0):cvtE (Q0c [] t)=(Q0c [] o,0)/\outE (Q0c [] t)=Q0c [] o:=by
 have hg:grow (Q0c [] t)=t:=Q3s t;have ho:ordE (Q0c [] t)=Q0c [] t:=by unfold ordE;rw[hg]
 have hfl:Q1z (Q0c [] t)=f:=by rw[Qtg (Q44 _) hs,hf]
 have hM:mdlE (Q0c [] t)=Qpg cl f imp eff (mxT t+1):=by unfold mdlE planM Qpg;rw[ho,hg,hfl,hcl];simp only[hn]
 have hO2:outE (Q0c [] t)=Q0c [] o:=by unfold outE;rw[hM,hg];unfold outM at hO;rw[hO]
 refine⟨?_,hO2⟩;unfold cvtE;rw[if_neg (by simp[hc]),if_neg (by rw[ho,he];simp),if_neg (by rw[ho,hM,ht];simp),if_neg (by rw[hO2,hk];simp),hO2]
theorem runs_of{fu:Int}(g:Nat){m:Ms}{v:Vl}(hc:check (Q0c [] t)=0)(hf:allT (FragL false) t)(hfu:1<=fu/\fu<=1000000)(hg:goX fu [] g ⟨.ev t .nil,[],[],0,[]⟩=some (.done m v))(ho:m.out.length<=1000)(hs:m.steps<=fu):RunsTo false fu (Q0c [] t) m v:=
 ⟨hc,by rw[Q3s];exact hf,hfu,by rw[Q3s];exact⟨g,hg,fun h=>by cases h⟩,ho,hs⟩
set_option maxRecDepth 100000
def twF:List FCl:=[(7,([],true)),(12,([],true))]
def twP:List Bool:=List.replicate 15 false++[true]
def twE:List Bool:=[false,false,true,true,false,false,false,true,false,false,false,false,true,true,true]
def twO:Tr:=outM (Qpg (List.range 16) twF twP twE 4) Q59
theorem Qk3:check (Q0c [] twO)=0:=by decide +kernel
theorem tw_cvt:cvtE (Q0c [] Q59)=(Q0c [] twO,0)/\outE (Q0c [] Q59)=Q0c [] twO:=
 cvtE_of (f:=twF) (cl:=List.range 16) (imp:=twP) (eff:=twE) 3
  Qd3 zky zky zky zky zky zky zky Qk3
theorem tw_run:RunsTo false 3000 (Q0c [] twO) ⟨.rt (.word 11),[],[],107,[]⟩ (.word 11):=
 runs_of 200 Qk3 (frag_of zky (fun n hn=>by
  have h:Qgf twO=[5,1,5,3]:=by kernel_rfl
  rw[h]at hn;simp only[Z53,Z5m,or_false]at hn;unfold inW;omega)) zoy zky zsy (by show (107:Int)<=3000;omega)
theorem runN_ok{mf:Ms}{vf:Vl}(he:okB e)(h:RunsTo false 3000 e mf vf):Q09 Tryz.prog Γc 41 [.one (.sl 5 (e.map cEx))] (.tup [.agg [.sl 1 (mf.out.map cI),int 0,int (Qfk vf)],.one (.lit (.bool true))]):=by have hR:=Run_ok MoreC.no he h;intro ou;refine zwk 16 Tryz.func41 fun hou=>?_;refine zA ?_;refine zca hΓc hR hou ?_;refine zM ?_;exact Q09.fin rfl (Z7h rfl) zsy hou rfl
theorem Qk4:∀x∈Q0c [] Q59,x.binds.length+1<=1048576:=by decide +kernel
theorem Qna:Q09 Tryz.prog Γt 16 [] (.one (.lit (.bool true))):=by
 have hC:=Qeq (Q0c [] Q59) Qh1 (fun _=>Qk4);have hO:okB (Q0c [] twO):=by have h:=Qku Qh1 Qk4 Qd3;rwa [tw_cvt.2]at h
 rw[tw_cvt.1]at hC;have hR:=Q09.t (runN_ok hO tw_run);intro ou;refine zwk 25 Tryz.func16 fun hou=>?_;refine zA ?_;refine zca hΓt (Qrd hΓt) hou ?_;refine zca hΓt hC hou ?_;refine zM ?_;refine zca hΓt hR hou ?_;refine zM ?_;exact Q09.fin rfl (Z7h rfl) zsy hou rfl
end Go.Proofs.YtlmokgooijbcdaaGreatDoor
