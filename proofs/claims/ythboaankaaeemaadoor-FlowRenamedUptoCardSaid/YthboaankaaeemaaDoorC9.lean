/- Grow, walked: the tree is handed on, each node owned. -/
import Derived.Test.YthboaankaaeemaaDoorC8
import Derived.Test.YthboaankaaeemaaDoorRows
import Derived.Lib.LaidTab
set_option maxRecDepth 10000
set_option linter.unusedVariables false
set_option linter.unusedSimpArgs false
namespace Go.Proofs.YthboaankaaeemaaDoor
open Go Go.Abs Go.CoreX
variable {Γ:List (Nat×List AC)}
def Q19 (ts:List LTr)(n:Nat):List AC:=ts.map (fun t=>.ptr (.o t.id) 0)++List.replicate (n - ts.length) (.lit (.pointer none))
theorem Qge(n:Nat):Q19 [] n=List.replicate n (.lit (.pointer none)):=by simp[Q19]
theorem Qgf{ts:List LTr}{n:Nat}(h:ts.length<=n):(Q19 ts n).length=n:=by simp[Q19];omega
theorem Q6f{ts:List LTr}{n k:Nat}{t:LTr}(h:ts[k]?=some t):(Q19 ts n)[k]?=some (.ptr (.o t.id) 0):=by
 have hk:=(List.getElem?_eq_some_iff.1 h).1
 unfold Q19
 rw[List.getElem?_append_left (by simpa using hk)]
 simp[h]
theorem Qgd{ts:List LTr}{n:Nat}(h:ts.length < n)(t:LTr):(Q19 ts n).set ts.length (.ptr (.o t.id) 0)=Q19 (ts++[t]) n:=by
 unfold Q19
 rw[List.set_append_right _ _ (by simp)]
 simp only[List.length_map,Nat.sub_self,List.map_append,List.map_cons,List.map_nil,List.append_assoc,List.length_append,List.length_singleton]
 congr 1
 rw[show n - ts.length=(n - (ts.length+1))+1 by omega,List.replicate_succ]
 rfl
theorem Qa0(p:Abs.Id->Prop)(hp:∀k,p (.o k))(ts:List LTr)(n:Nat):idsL p (Q19 ts n):=by
 refine Q5v ?_ (Qfk p _ _)
 induction ts with
 |nil=>trivial
 |cons t ts ih=>exact⟨hp _,ih⟩
@[simp] theorem ids_nodesL_l (k:Nat) (ts:List LTr) (n:Nat):idsL (inL k) (Q19 ts n):=Qa0 _ (fun _=>trivial) ts n
@[simp] theorem Qci (ts:List LTr) (n:Nat):idsL isO (Q19 ts n):=Qa0 _ (fun _=>trivial) ts n
theorem Qj0(l:List LTr)(t:LTr):kC (l++[t])=kC l++[[.ptr (.o t.id) 0]]:=by simp[kC]
def kidsL (ts:List LTr)(ks:List Int):List LTr:=ks.map fun k=>ts.getD k.toNat default
theorem Qgn{ts:List LTr}{ks:List Int}{i:Nat}{k:Int}(h:ks[i]?=some k):kidsL ts (ks.take (i+1))=kidsL ts (ks.take i)++[ts.getD k.toNat default]:=by
 simp[kidsL,List.take_add_one,h]
@[simp] theorem ids_kC_l (k:Nat) (ts:List LTr):idsS (inL k) (kC ts):=Q8e _ (fun _=>trivial) ts
@[simp] theorem Qll (ts:List LTr):idsS isO (kC ts):=Q8e _ (fun _=>trivial) ts
@[simp] theorem ids_lAlts_l (k:Nat) (l:List LAlt):idsS (inL k) (l.map lAlt):=Q8d _ (fun _=>trivial) l
@[simp] theorem Qdk (l:List LAlt):idsS isO (l.map lAlt):=Q8d _ (fun _=>trivial) l
@[simp] theorem ids_bC_l (k:Nat) (nb:Nb) (l:List Int):(bC nb l).ids (inL k):=Qa2 _ (fun _=>trivial) nb l
@[simp] theorem ids_bC_o (nb:Nb) (l:List Int):(bC nb l).ids isO:=Qa2 _ (fun _=>trivial) nb l
@[simp] theorem ren_kC (ρ:Nat->Nat) (l:List LTr):renS ρ (kC l)=kC l:=Q1s ρ _ (Qll l)
@[simp] theorem Qi7 (ρ:Nat->Nat) (l:List LAlt):renS ρ (l.map lAlt)=l.map lAlt:=Q1s ρ _ (Qdk l)
@[simp] theorem ren_bC (ρ:Nat->Nat) (nb:Nb) (l:List Int):(bC nb l).ren ρ=bC nb l:=by cases nb <;> simp[bC,AC.ren,Abs.Id.ren]
theorem NewO.add{ou:Outer}{k:Nat}{o:AObj}(hk:∀m,k<=m->ou m=none)(hou:OuOk ou)(ho:o.ids isO):NewO ou (ouAdd ou k [o]) [(k,o)]:=by
 refine⟨fun p hp=>?_,fun j hj=>?_,fun m hm=>?_,Q4v hou fun q hq=>by simp at hq;subst hq;exact ho,by simp[keys]⟩
 ·simp at hp;subst hp
  exact Q0q 0
 ·simp[keys]at hj;subst hj;exact hk _ (Nat.le_refl _)
 ·simp[keys]at hm
  rcases Nat.lt_or_ge m k with h1|h1
  ·exact Q1b h1
  ·obtain⟨p,rfl⟩:∃p,m=k+p:=⟨m - k,by omega⟩
   rw[Q0q,hk _ h1]
   cases p with
   |zero=>simp at hm
   |succ p=>simp
def GrowQ (e:List Ex)(ou:Outer)(r:FV)(ou':Outer):Prop:=∃t:LTr,r=.one (.ptr (.o t.id) 0)/\erT t=grow e/\okL t/\Owns ou' (objs t)/\(keys (objs t)).Nodup/\(∀k∈keys (objs t),ou k=none)/\OuOk ou'/\∀j o,ou j=some o->ou' j=some o
set_option maxHeartbeats 1000000 in
theorem Qmg(hΓ:∀g cs,(g,cs)∈Γ->idsL isO cs)(e:List Ex)(he:okE e)(hin:Q0v e)(hT:IsTree e)(ou:Outer):AFn Tryd.prog Γ 35 [.one (.sl 5 (e.map cEx))] ou (GrowQ e ou):=by
 have hel:=he.l
 refine AFn.walk 85 tabOk Tryd.func35 rfl (by kernel_rfl) rfl rfl fun hou=>?_
 refine zA ?_
 have hb:ti90.bytes * (e.map cEx).length<=281474976710656:=by simp;show 8 * _<=_;omega
 have hb2:(e.map cEx).length<=281474976710656:=by simp;omega
 refine zS (AStep.makeArr tabOk rfl rfl rfl rfl rfl rfl rfl rfl hb hb2) ?_
 refine zA ?_
 refine ACode.loopR hΓ (α:=Nat×List LTr×Outer) (fun c=>[(16,.one (int c.1)),(15,.one (int (e.map cEx).length)),(14,.one (.sl 5 (e.map cEx))),(3,.one (.arr (.l 0) 1 0 (e.map cEx).length (e.map cEx).length)),(0,.one (.sl 5 (e.map cEx)))])
  (fun c=>⟨1,[(0,.cells (Q19 c.2.1 (e.map cEx).length))],c.2.2⟩) (fun m c=>c.1<=e.length/\(LinkL (e.take c.1) c.2.1/\NewO ou c.2.2 (c.2.1.flatMap ownO))/\m=e.length - c.1) (a0:=(0,[],ou)) (ρ:=id) ⟨by omega,⟨LinkL.nil,.nil hou⟩,rfl⟩
  (LessR.of rfl zFS (by simp) (LoSub.cons rfl (by rw[AObj.ren_pure _ _ (by simp)];show AObj.cells (List.replicate _ _)=AObj.cells (Q19 [] _);rw[Qge]) rfl (by simp) .nil) rfl rfl hou) fun m c hc=>?_
 obtain⟨j,lts,ov⟩:=c
 obtain⟨hjl,⟨hL,hN⟩,rfl⟩:=hc
 dsimp only at hjl hL hN
 have hov:=hN.ok
 refine zA ?_
 refine ACode.cond rfl (fun hb2=>?_) (fun hb2=>?_)
 ·have hlt:j < e.length:=by simpa using hb2
  obtain⟨x,hx⟩:=Q00 hlt
  have hxo:=he.x x (List.mem_of_getElem? hx)
  have hxk:=hxo.k
  have hxa:=hxo.a
  have hxin:=hin j x hx
  have hgl:lts.length=j:=by rw[hL.len];simp;omega
  refine zA ?_
  refine zS (zIA rfl rfl rfl (by omega) (Q0c hx)) ?_
  refine zA ?_
  refine ACode.drawC tabOk 9 [6,7,8] [] (fun vs σ=>match vs with
    |[]=>σ=⟨2,[(1,.cells (cEx x)),(1,.cells (ti69.zero.map .lit)),(0,.cells (Q19 lts (e.map cEx).length))],ov⟩
    |[a]=>∃nb ow,ownB nb x.binds/\NewO ov ow (bO nb x.binds)/\a=.one (bC nb x.binds)/\σ=⟨2,[(1,.cells (cEx x)),(1,.cells (ti69.zero.map .lit)),(0,.cells (Q19 lts (e.map cEx).length))],ow⟩
    |[a,b]=>∃nb ow,ownB nb x.binds/\NewO ov ow (bO nb x.binds)/\a=.one (bC nb x.binds)/\b=.agg [int x.op,int x.n,bC nb x.binds,.lit (.slice none 0 0),.lit (.slice none 0 0)]/\σ=⟨2,[(1,.cells (cEx x)),(1,.cells (ti69.zero.map .lit)),(0,.cells (Q19 lts (e.map cEx).length))],ow⟩
    |[a,b,c]=>∃nb ow,ownB nb x.binds/\NewO ov ow (bO nb x.binds)/\a=.one (bC nb x.binds)/\b=.agg [int x.op,int x.n,bC nb x.binds,.lit (.slice none 0 0),.lit (.slice none 0 0)]/\c=.one (.ptr (.l 2) 0)/\σ=⟨3,[(2,.cells [int x.op,int x.n,bC nb x.binds,.lit (.slice none 0 0),.lit (.slice none 0 0)]),(1,.cells (cEx x)),(1,.cells (ti69.zero.map .lit)),(0,.cells (Q19 lts (e.map cEx).length))],ow⟩
    |_=>False) follows (by kernel_rfl) rfl rfl (by decide) (by kernel_rfl) (by kernel_rfl) rfl rfl ?_ (fun _ _ _=>.nil) (by decide) ?_ ?_
  ·rintro vs σ hG
   match vs,hG with
   |[],hG=>subst hG;rfl
   |[a],hG=>obtain⟨nb,ow,_,_,_,rfl⟩:=hG;rfl
   |[a,b],hG=>obtain⟨nb,ow,_,_,_,_,rfl⟩:=hG;rfl
   |[a,b,c],hG=>obtain⟨nb,ow,_,_,_,_,_,rfl⟩:=hG;rfl
  ·rintro vs σ hG i o hi ho
   match vs,hG with
   |[],hG=>
    subst hG
    cases hi
    cases ho
    refine⟨rfl,rfl,.inr ⟨rfl,Q2z.call hΓ rfl rfl rfl rfl (by simp) hov (Qd3 x.binds hxo.b ov) fun r ow hq _ _=>?_⟩⟩
    obtain⟨nb,h1,rfl,h2⟩:=hq
    exact⟨nb,ow,h1,h2,rfl,rfl⟩
   |[a],hG=>
    obtain⟨nb,ow,h1,h2,rfl,rfl⟩:=hG
    cases hi
    cases ho
    exact⟨rfl,rfl,.inl ⟨_,_,HStep.auto tabOk rfl,nb,ow,h1,h2,rfl,rfl,rfl⟩⟩
   |[a,b],hG=>
    obtain⟨nb,ow,h1,h2,rfl,rfl,rfl⟩:=hG
    cases hi
    cases ho
    exact⟨rfl,rfl,.inl ⟨_,_,HStep.auto tabOk rfl,nb,ow,h1,h2,rfl,rfl,rfl,rfl⟩⟩
   |[a,b,c],hG=>cases hi
  rintro vs σ hlen hG
  match vs,hlen,hG with
  |[a,b,c],_,hG=>
  obtain⟨nb,ow,hnb,hNb,rfl,rfl,rfl,rfl⟩:=hG
  have how:=hNb.ok
  refine zA ?_
  refine ACode.grow 2 3 90 1 rfl rfl ?_
  refine ACode.loopR hΓ (α:=Nat) (fun i=>[(33,.one (int i)),(32,.one (int (x.kids.map cI).length)),(31,.one (.sl 1 (x.kids.map cI))),(6,.one (.ptr (.l 2) 0)),(5,.one (.ptr (.l 1) 0)),(4,.one (int j)),(16,.one (int j)),(15,.one (int (e.map cEx).length)),(14,.one (.sl 5 (e.map cEx))),(3,.one (.arr (.l 0) 1 0 (e.map cEx).length (e.map cEx).length)),(0,.one (.sl 5 (e.map cEx)))])
   (fun i=>⟨4,[(3,.tok 90 1 i),(2,.cells [int x.op,int x.n,bC nb x.binds,.gs 1 (kC (kidsL lts (x.kids.take i))) (.l 3),.lit (.slice none 0 0)]),(1,.cells (cEx x)),(0,.cells (Q19 lts (e.map cEx).length))],ow⟩)
   (fun m i=>i<=x.kids.length/\m=x.kids.length - i) (a0:=0) (ρ:=id) ⟨by omega,rfl⟩ (LessR.of rfl zFS (by simp) ?_ rfl rfl how) fun m i hi=>?_
  ·repeat' first|exact LoSub.nil|refine zlc ?_|refine zld ?_ ?_|rfl
   all_goals (simp[AObj.ren,renL,AC.ren,kidsL];exact⟨rfl,rfl⟩)
  obtain⟨hil,rfl⟩:=hi
  refine zA ?_
  refine ACode.cond rfl (fun hb3=>?_) (fun hb3=>?_)
  ·have hlt2:i < x.kids.length:=by simpa using hb3
   obtain⟨k,hk⟩:=Q00 hlt2
   have hkb:=hxin k (List.mem_of_getElem? hk)
   obtain⟨k',rfl⟩:∃k':Nat,k=k':=⟨k.toNat,by omega⟩
   obtain⟨tk,htk⟩:=Q00 (l:=lts) (i:=k') (by omega)
   have htd:(lts).getD (k':Int).toNat default=tk:=by rw[Int.toNat_natCast,List.getD_eq_getElem?_getD,htk];rfl
   have hks:=Qgn (ts:=lts) hk
   rw[htd]at hks
   have hkl:(kC (kidsL lts (x.kids.take i))).length=i:=by simp[kC,kidsL];omega
   refine zA ?_
   refine zS (zIA rfl rfl rfl (by omega) (Q0c hk)) ?_
   refine zA ?_
   refine ACode.drawXH (va:=.one (.gs 1 (kC (kidsL lts (x.kids.take i))++[[AC.ptr (.o tk.id) 0]]) (.l 4))) (σ1:=((St.mk 4 [(3,.tok 90 1 i),(2,.cells [int x.op,int x.n,bC nb x.binds,.gs 1 (kC (kidsL lts (x.kids.take i))) (.l 3),.lit (.slice none 0 0)]),(1,.cells (cEx x)),(0,.cells (Q19 lts (e.map cEx).length))] ow).set (.l 3) .dead).push (.tok 90 1 (kC (kidsL lts (x.kids.take i))++[[AC.ptr (.o tk.id) 0]]).length))
    tabOk 11 10 [(7,.one (.ptr (.l 0) k')),(8,.one (.ptr (.o tk.id) 0))] follows (by kernel_rfl) rfl rfl rfl rfl rfl rfl rfl ?_ ?_ ?_ ?_
   ·refine HStep.plain rfl (AStep.append (s:=1) (es:=kC (kidsL lts (x.kids.take i))) (news:=[[AC.ptr (.o tk.id) 0]]) (ti:=ti99) (σ:=⟨4,[(3,.tok 90 1 i),(2,.cells [int x.op,int x.n,bC nb x.binds,.gs 1 (kC (kidsL lts (x.kids.take i))) (.l 3),.lit (.slice none 0 0)]),(1,.cells (cEx x)),(0,.cells (Q19 lts (e.map cEx).length))],ow⟩) tabOk rfl rfl rfl rfl rfl rfl (Base.gs' _ 90 1 (kC (kidsL lts (x.kids.take i))) (.l 3) rfl hkl.symm) (.sl _ _) rfl ?_ ?_)
    ·rw[hkl];show (i+1) * 8<=_;omega
    ·rw[hkl];show i+1<=_;omega
   ·refine .step rfl (zHP (idxI tabOk rfl rfl rfl rfl rfl rfl rfl (by simp;omega))) ?_
    exact .step rfl (zHP (zLD rfl rfl rfl (Q6f htk))) .nil
   ·refine .step rfl (zHP (idxI tabOk rfl rfl rfl rfl rfl rfl rfl (by simp;omega))) ?_
    exact .step rfl (zHP (zLD rfl rfl rfl (Q6f htk))) .nil
   refine zM ?_
   refine cInv ⟨x.kids.length - (i+1),i+1,fun k=>if k=3 then 4 else k,by omega,⟨by omega,rfl⟩,LessR.of rfl zFS (by simp) ?_ rfl rfl how⟩
   repeat' first|exact LoSub.nil|refine zlc ?_|refine zld ?_ ?_|rfl
   ·simp only[AObj.ren,List.length_append,hkl];rfl
   ·rw[hks,Qj0];simp only[AObj.ren,renL,AC.ren,ren_bC];rw[←Qj0,ren_kC];rfl
  have hlt2:i=x.kids.length:=by simp at hb3;omega
  subst hlt2
  rw[List.take_length]
  refine zA ?_
  refine ACode.grow 2 4 135 2 rfl rfl ?_
  refine ACode.loopR hΓ (α:=Nat×Outer×List LAlt) (fun c=>[(54,.one (int c.1)),(53,.one (int (x.alts.map cAlt).length)),(52,.one (.sl 2 (x.alts.map cAlt))),(6,.one (.ptr (.l 2) 0)),(4,.one (int j)),(16,.one (int j)),(15,.one (int (e.map cEx).length)),(14,.one (.sl 5 (e.map cEx))),(3,.one (.arr (.l 0) 1 0 (e.map cEx).length (e.map cEx).length)),(0,.one (.sl 5 (e.map cEx)))])
   (fun c=>⟨5,[(4,.tok 135 2 c.1),(2,.cells [int x.op,int x.n,bC nb x.binds,.gs 1 (kC (kidsL lts x.kids)) (.l 3),.gs 2 (c.2.2.map lAlt) (.l 4)]),(0,.cells (Q19 lts (e.map cEx).length))],c.2.1⟩)
   (fun m c=>c.1<=x.alts.length/\(c.2.2.map LAlt.er=x.alts.take c.1/\(∀y∈c.2.2,ownB y.nb y.binds)/\NewO ow c.2.1 (aO c.2.2))/\m=x.alts.length - c.1) (a0:=(0,ow,[])) (ρ:=id) ⟨by omega,⟨rfl,by simp,.nil how⟩,rfl⟩ (LessR.of rfl zFS (by simp) ?_ rfl rfl how) fun m c hc=>?_
  ·repeat' first|exact LoSub.nil|refine zlc ?_|refine zld ?_ ?_|rfl
   all_goals (simp[AObj.ren,renL,AC.ren];exact⟨rfl,rfl⟩)
  obtain⟨i,oy,la⟩:=c
  obtain⟨hil,⟨hla,hlo,hNa⟩,rfl⟩:=hc
  dsimp only at hil hla hlo hNa
  have hoy:=hNa.ok
  have hll:la.length=i:=by have:=congrArg List.length hla;simp at this;omega
  have hal:(la.map lAlt).length=i:=by simp[hll]
  refine zA ?_
  refine ACode.cond rfl (fun hb3=>?_) (fun hb3=>?_)
  ·have hlt2:i < x.alts.length:=by simpa using hb3
   obtain⟨a,ha⟩:=Q00 hlt2
   refine zA ?_
   refine zS (zIA rfl rfl rfl (by omega) (Q0c ha)) ?_
   refine zA ?_
   refine ACode.drawC tabOk 13 [9,10,11,12] [] (fun vs σ=>match vs with
     |[]=>σ=⟨6,[(5,.cells (cAlt a)),(5,.cells (ti135.zero.map .lit)),(4,.tok 135 2 i),(2,.cells [int x.op,int x.n,bC nb x.binds,.gs 1 (kC (kidsL lts x.kids)) (.l 3),.gs 2 (la.map lAlt) (.l 4)]),(0,.cells (Q19 lts (e.map cEx).length))],oy⟩
     |[q1]=>∃nc oz,ownB nc a.binds/\NewO oy oz (bO nc a.binds)/\q1=.one (bC nc a.binds)/\σ=⟨6,[(5,.cells (cAlt a)),(5,.cells (ti135.zero.map .lit)),(4,.tok 135 2 i),(2,.cells [int x.op,int x.n,bC nb x.binds,.gs 1 (kC (kidsL lts x.kids)) (.l 3),.gs 2 (la.map lAlt) (.l 4)]),(0,.cells (Q19 lts (e.map cEx).length))],oz⟩
     |[q1,q2]=>∃nc oz,ownB nc a.binds/\NewO oy oz (bO nc a.binds)/\q1=.one (bC nc a.binds)/\q2=.agg [int a.tag,bC nc a.binds]/\σ=⟨6,[(5,.cells (cAlt a)),(5,.cells (ti135.zero.map .lit)),(4,.tok 135 2 i),(2,.cells [int x.op,int x.n,bC nb x.binds,.gs 1 (kC (kidsL lts x.kids)) (.l 3),.gs 2 (la.map lAlt) (.l 4)]),(0,.cells (Q19 lts (e.map cEx).length))],oz⟩
     |[q1,q2,q3]=>∃nc oz,ownB nc a.binds/\NewO oy oz (bO nc a.binds)/\q1=.one (bC nc a.binds)/\q2=.agg [int a.tag,bC nc a.binds]/\q3=.one (.sl 2 [[int a.tag,bC nc a.binds]])/\σ=⟨6,[(5,.cells (cAlt a)),(5,.cells (ti135.zero.map .lit)),(4,.tok 135 2 i),(2,.cells [int x.op,int x.n,bC nb x.binds,.gs 1 (kC (kidsL lts x.kids)) (.l 3),.gs 2 (la.map lAlt) (.l 4)]),(0,.cells (Q19 lts (e.map cEx).length))],oz⟩
     |[q1,q2,q3,q4]=>∃nc oz,ownB nc a.binds/\NewO oy oz (bO nc a.binds)/\q1=.one (bC nc a.binds)/\q2=.agg [int a.tag,bC nc a.binds]/\q3=.one (.sl 2 [[int a.tag,bC nc a.binds]])/\q4=.one (.gs 2 (la.map lAlt++[[int a.tag,bC nc a.binds]]) (.l 6))/\σ=⟨7,[(6,.tok 135 2 (la.map lAlt++[[int a.tag,bC nc a.binds]]).length),(4,.dead),(5,.cells (cAlt a)),(5,.cells (ti135.zero.map .lit)),(4,.tok 135 2 i),(2,.cells [int x.op,int x.n,bC nb x.binds,.gs 1 (kC (kidsL lts x.kids)) (.l 3),.gs 2 (la.map lAlt) (.l 4)]),(0,.cells (Q19 lts (e.map cEx).length))],oz⟩
     |_=>False) follows (by kernel_rfl) rfl rfl (by decide) (by kernel_rfl) (by kernel_rfl) rfl rfl ?_ (fun _ _ _=>.nil) (by decide) ?_ ?_
   ·rintro vs σ hG
    match vs,hG with
    |[],hG=>subst hG;rfl
    |[_],hG=>obtain⟨nc,oz,_,_,_,rfl⟩:=hG;rfl
    |[_,_],hG=>obtain⟨nc,oz,_,_,_,_,rfl⟩:=hG;rfl
    |[_,_,_],hG=>obtain⟨nc,oz,_,_,_,_,_,rfl⟩:=hG;rfl
    |[_,_,_,_],hG=>obtain⟨nc,oz,_,_,_,_,_,_,rfl⟩:=hG;rfl
   ·rintro vs σ hG q o hi ho
    match vs,hG with
    |[],hG=>
     subst hG
     cases hi
     cases ho
     refine⟨rfl,rfl,.inr ⟨rfl,Q2z.call hΓ rfl rfl rfl rfl (by simp) hoy (Qd3 a.binds (hxo.ab a (List.mem_of_getElem? ha)) oy) fun r oz hq _ _=>?_⟩⟩
     obtain⟨nc,h1,rfl,h2⟩:=hq
     exact⟨nc,oz,h1,h2,rfl,rfl⟩
    |[_],hG=>
     obtain⟨nc,oz,h1,h2,rfl,rfl⟩:=hG
     cases hi
     cases ho
     exact⟨rfl,rfl,.inl ⟨_,_,HStep.auto tabOk rfl,nc,oz,h1,h2,rfl,rfl,rfl⟩⟩
    |[_,_],hG=>
     obtain⟨nc,oz,h1,h2,rfl,rfl,rfl⟩:=hG
     cases hi
     cases ho
     exact⟨rfl,rfl,.inl ⟨_,_,HStep.auto tabOk rfl,nc,oz,h1,h2,rfl,rfl,rfl,rfl⟩⟩
    |[_,_,_],hG=>
     obtain⟨nc,oz,h1,h2,rfl,rfl,rfl,rfl⟩:=hG
     cases hi
     cases ho
     refine⟨rfl,rfl,.inl ⟨_,_,HStep.plain rfl (AStep.append (s:=2) (es:=la.map lAlt) (news:=[[int a.tag,bC nc a.binds]]) (ti:=ti67) tabOk rfl rfl rfl rfl rfl rfl (Base.gs' _ 135 2 (la.map lAlt) (.l 4) rfl hal.symm) (.sl _ _) rfl ?_ ?_),nc,oz,h1,h2,rfl,rfl,rfl,rfl,rfl⟩⟩
     ·rw[hal];show (i+1) * 32<=_;omega
     ·rw[hal];show i+1<=_;omega
    |[_,_,_,_],hG=>cases hi
   rintro vs σ hlen hG
   match vs,hlen,hG with
   |[_,_,_,_],_,hG=>
   obtain⟨nc,oz,hnc,hNc,rfl,rfl,rfl,rfl,rfl⟩:=hG
   refine zM ?_
   obtain⟨la',hla'⟩:∃la',la'=la++[⟨a.tag,nc,a.binds⟩]:=⟨_,rfl⟩
   have hlm:la.map lAlt++[[int a.tag,bC nc a.binds]]=la'.map lAlt:=by rw[hla',List.map_append];rfl
   refine cInv ⟨x.alts.length - (i+1),(i+1,oz,la'),fun k=>if k=4 then 6 else k,by omega,⟨by omega,⟨by rw[hla',List.map_append,hla,Q0o ha];rfl,?_,?_⟩,rfl⟩,LessR.of rfl zFS (by simp) ?_ rfl rfl hNc.ok⟩
   ·intro y hy
    rw[hla']at hy
    rcases List.mem_append.1 hy with hy|hy
    ·exact hlo y hy
    ·simp at hy;subst hy;exact hnc
   ·dsimp only
    rw[hla',Q90,show aO [⟨a.tag,nc,a.binds⟩]=bO nc a.binds by simp[aO]]
    exact hNa.trans hNc
   ·repeat' first|exact LoSub.nil|refine zlc ?_|refine zld ?_ ?_|rfl
    ·simp only[AObj.ren,List.length_append,hal];rfl
    ·simp only[hlm,AObj.ren,renL,AC.ren,ren_bC,ren_kC,Qi7];rfl
  have hlt2:i=x.alts.length:=by simp at hb3;omega
  subst hlt2
  rw[List.take_length]at hla
  refine zA ?_
  refine zS (idxI tabOk rfl rfl rfl rfl rfl rfl rfl (by simp;omega)) ?_
  refine AOps.wkObj (.l 2) rfl (cs':=[int x.op,int x.n,bC nb x.binds,.sl 1 (kC (kidsL lts x.kids)),.sl 2 (la.map lAlt)]) (fun w C xs h=>?_) ?_
  ·exact (show WkL _ _ from .cons (.refl _) (.cons (.refl _) (.cons (.refl _) (.cons (.gsE rfl) (.cons (.gsE rfl) .nil))))) w C xs h
  have hθ:∀(k:Nat) (i:Abs.Id),isO i->toOs [2] k i=i:=fun k i hi=>by cases i with|l q=>exact hi.elim|o q=>rfl
  refine AOps.cedes [2] rfl (by decide) hoy fun k hk=>⟨[(77,.one (.ptr (.l 0) j)),(76,.one (.ptr (.o k) 0)),(16,.one (int j)),(15,.one (int (e.map cEx).length)),(14,.one (.sl 5 (e.map cEx))),(3,.one (.arr (.l 0) 1 0 (e.map cEx).length (e.map cEx).length)),(0,.one (.sl 5 (e.map cEx)))],
   [(0,.cells (Q19 lts (e.map cEx).length))],[.cells [int x.op,int x.n,bC nb x.binds,.sl 1 (kC (kidsL lts x.kids)),.sl 2 (la.map lAlt)]],?_,?_,?_,?_⟩
  ·exact .cons rfl rfl (.cons rfl rfl (.cons rfl rfl (.cons rfl rfl (.cons rfl (FV.sub_f (hθ k) _ (by simp)) (.cons rfl rfl (.cons rfl (FV.sub_f (hθ k) _ (by simp)) .nil))))))
  ·exact .cons rfl rfl (AObj.sub_f (hθ k) _ (Qci _ _)) .nil
  ·exact .cons rfl (AObj.sub_f (hθ k) _ (Q7c _ _ _ _ _ _)) .nil
  have hN1:=NewO.add hk hoy (Q7c x.op x.n nb x.binds (kidsL lts x.kids) la)
  have hN2:=((hN.trans hNb).trans hNa).trans hN1
  obtain⟨t,ht⟩:∃t:LTr,t=.mk k x.op x.n nb x.binds (kidsL lts x.kids) la:=⟨_,rfl⟩
  have hto:lts.flatMap ownO++bO nb x.binds++aO la++[(k,.cells [int x.op,int x.n,bC nb x.binds,.sl 1 (kC (kidsL lts x.kids)),.sl 2 (la.map lAlt)])]=(lts++[t]).flatMap ownO:=by
   rw[List.flatMap_append,ht]
   simp[ownO,List.append_assoc]
  rw[hto]at hN2
  have hL2:=hL.snoc (Qgo (by rw[List.take_append_drop];exact hin)) (x:=x) (fun q hq=>by have:=hxin q hq;simp;omega) (id:=k) hla hnb hlo
  rw[←Q0o hx,show LTr.mk k x.op x.n nb x.binds (x.kids.map fun q=>lts.getD q.toNat default) la=t by rw[ht];rfl]at hL2
  refine AOps.storeOwn tabOk rfl rfl rfl rfl rfl rfl rfl rfl (by rw[Qgf (by simp[hgl];omega)];simp;omega) ?_
  have hst:=Qgd (ts:=lts) (n:=(e.map cEx).length) (by simp[hgl];omega) t
  rw[hgl,show t.id=k by rw[ht];rfl]at hst
  rw[hst]
  refine zM ?_
  exact cInv ⟨e.length - (j+1),(j+1,lts++[t],_),id,by omega,⟨by omega,⟨hL2,hN2⟩,rfl⟩,LessR.of rfl zFS (by simp) zLO rfl rfl hN2.ok⟩
 ·have hlt:j=e.length:=by simp at hb2;omega
  subst hlt
  rw[List.take_length]at hL
  obtain⟨N,hNe⟩:∃N,e.length=N+1:=⟨e.length - 1,by have:=List.length_pos_iff.2 hT.ne;omega⟩
  obtain⟨t,ht⟩:=Q00 (l:=lts) (i:=N) (by rw[hL.len];omega)
  have hnt:e.length - 1=N:=by omega
  refine zM ?_
  refine AOps.wk 82 rfl (y:=.one (int (N:Nat))) (.ofEq (by congr 3;simp;omega)) ?_
  refine zS (idxI tabOk rfl rfl rfl rfl rfl rfl rfl (by simp;omega)) ?_
  refine zS (zLD rfl rfl rfl (Q6f ht)) ?_
  refine zA ?_
  have hown:=hL.own hin _ N t (Nat.lt_succ_self _) ht
  refine AFn.fin' rfl (WkF.ofEq rfl) (by simp[AC.ids]) hov ⟨t,rfl,?_,?_,?_,?_,?_,hov,?_⟩
  ·rw[hL.er hin _ N t (Nat.lt_succ_self _) ht]
   unfold grow Q45;rw[hnt]
  ·exact hL.ok hin (fun x hx=>⟨(he.x x hx).b,(he.x x hx).k,(he.x x hx).a,(he.x x hx).ab⟩) _ N t (Nat.lt_succ_self _) ht
  ·exact fun p hp=>hN.own p (hown p hp)
  ·exact hL.nodup hT hN.nd (by rw[hnt];exact ht)
  ·intro k hk
   obtain⟨p,hp,rfl⟩:=List.mem_map.1 hk
   exact hN.new p.1 (List.mem_map_of_mem (hown p hp))
  ·intro m o hm
   show ov m=some o
   rw[hN.old m fun hmk=>by have:=hN.new m hmk;rw[hm]at this;cases this]
   exact hm
end Go.Proofs.YthboaankaaeemaaDoor
namespace Go.CoreX
def rnTA (nm:Nm)(f:Int):List Alt->List Alt×Nm×Int
 |[]=>([],nm,f)
 |x::l=>(⟨x.tag,frB f x.binds⟩::(rnTA (frN nm f x.binds) (f+x.binds.length) l).1,(rnTA (frN nm f x.binds) (f+x.binds.length) l).2)
mutual
def rnT (nm:Nm)(f:Int):Tr->Tr×Nm×Int
 |.mk o n b k a=>
  let s1:=ren1 o nm f b
  let s2:=rnTA s1.2.1 s1.2.2 a
  let s3:=rnTs s2.2.1 s2.2.2 k
  (.mk o (if o=0 then (nm n).getD n else n) s1.1 s3.1 s2.1,s3.2)
def rnTs (nm:Nm)(f:Int):List Tr->List Tr×Nm×Int
 |[]=>([],nm,f)
 |t::l=>((rnT nm f t).1::(rnTs (rnT nm f t).2.1 (rnT nm f t).2.2 l).1,(rnTs (rnT nm f t).2.1 (rnT nm f t).2.2 l).2)
end
theorem Qi6:∀(l:List LAlt)(nm:Nm)(f:Int),(rnAs nm f l).1.map LAlt.er=(rnTA nm f (l.map LAlt.er)).1/\(rnAs nm f l).2=(rnTA nm f (l.map LAlt.er)).2
 |[],_,_=>⟨rfl,rfl⟩
 |x::l,nm,f=>by
  have ih:=Qi6 l (frN nm f x.binds) (f+x.binds.length)
  simp only[rnAs,List.map_cons,rnTA,ih.1]
  exact⟨rfl,ih.2⟩
mutual
theorem rnL_er:∀(t:LTr)(nm:Nm)(f:Int),erT (rnL nm f t).1=(rnT nm f (erT t)).1/\(rnL nm f t).2=(rnT nm f (erT t)).2
 |.mk i o n nb b k a,nm,f=>by
  have h2:=Qi6 a (ren1 o nm f b).2.1 (ren1 o nm f b).2.2
  have h3:=Qi5 k (rnAs (ren1 o nm f b).2.1 (ren1 o nm f b).2.2 a).2.1 (rnAs (ren1 o nm f b).2.1 (ren1 o nm f b).2.2 a).2.2
  rw[h2.2]at h3
  simp only[rnL,erT,rnT,h2.1,h2.2,h3.1,h3.2]
  exact⟨trivial,trivial⟩
theorem Qi5:∀(l:List LTr)(nm:Nm)(f:Int),erTs (rnLs nm f l).1=(rnTs nm f (erTs l)).1/\(rnLs nm f l).2=(rnTs nm f (erTs l)).2
 |[],_,_=>⟨rfl,rfl⟩
 |t::l,nm,f=>by
  have h1:=rnL_er t nm f
  have h2:=Qi5 l (rnL nm f t).2.1 (rnL nm f t).2.2
  rw[h1.2]at h2
  simp only[rnLs,erTs,rnTs,h1.1,h1.2,h2.1,h2.2]
  exact⟨trivial,trivial⟩
end
def nbLab (l:Lab):Int:=(if l.op=9 then 0 else l.binds.length:Nat)+((l.alts.map fun x=>x.binds.length).sum:Nat)
theorem nbA_er(l:List LAlt):nbA l=((l.map LAlt.er).map fun x=>x.binds.length).sum:=by simp[nbA,Function.comp_def,LAlt.er]
mutual
theorem nbL_er:∀t:LTr,((nbL t:Nat):Int)=sumT nbLab (erT t)
 |.mk i o n nb b k a=>by
  have:=Qis k
  simp only[nbL,erT,sumT,nbLab,nbA_er,←this];push_cast;omega
theorem Qis:∀l:List LTr,((nbLs l:Nat):Int)=sumTs nbLab (erTs l)
 |[]=>by simp[nbLs,erTs,sumTs]
 |t::l=>by
  have h1:=nbL_er t
  have h2:=Qis l
  simp only[nbLs,erTs,sumTs,←h1,←h2];push_cast;rfl
end
def nbE (e:List Ex):Int:=sumT nbLab (grow e)
def Q5l (e:List Ex)(f:Int):List Ex×Int:=
 if check e≠0 then ([],check e)else if f < 0∨1048576 < f then ([],4)else if 1048576 < (rnT (fun _=>none) f (grow e)).2.2 then ([],4)else (listT [] (rnT (fun _=>none) f (grow e)).1,0)
-- The shape stays.
theorem Q4t(o:Int)(nm:Nm)(f:Int)(b:List Int):(ren1 o nm f b).1.length=b.length:=by
 unfold ren1;split
 ·rfl
 ·exact Q3k f b
theorem Q78:∀(l:List Alt)(nm:Nm)(f:Int),(rnTA nm f l).1.map (fun x=>x.binds.length)=l.map fun x=>x.binds.length
 |[],_,_=>rfl
 |x::l,nm,f=>by simp only[rnTA,List.map_cons,Q3k,Q78 l]
theorem Q5a{l r:List Alt}(h:l.map (fun x=>x.binds.length)=r.map fun x=>x.binds.length):(l.flatMap (·.binds)).length=(r.flatMap (·.binds)).length:=by
 simp only[List.length_flatMap];exact congrArg List.sum h
theorem Qiv{l r:List Alt}(h:l.map (fun x=>x.binds.length)=r.map fun x=>x.binds.length){c:Nat}(hr:∀x∈r,x.binds.length<=c):∀x∈l,x.binds.length<=c:=fun x hx=>by
 have:x.binds.length∈r.map fun x=>x.binds.length:=by rw[←h];exact List.mem_map_of_mem (f:=fun x:Alt=>x.binds.length) hx
 obtain⟨y,hy,e⟩:=List.mem_map.1 this
 rw[←e];exact hr y hy
mutual
theorem rnT_ok:∀(t:Tr)(nm:Nm)(f:Int),okT t->okT (rnT nm f t).1
 |.mk o n b k a,nm,f,h=>by
  obtain⟨h1,h2,h3,⟨h4,h5⟩,h6⟩:=h
  have e1:=Q78 a (ren1 o nm f b).2.1 (ren1 o nm f b).2.2
  have e2:=congrArg List.length e1
  simp only[List.length_map]at e2
  obtain⟨h7,h8⟩:=Qhu k (rnTA (ren1 o nm f b).2.1 (ren1 o nm f b).2.2 a).2.1 (rnTA (ren1 o nm f b).2.1 (ren1 o nm f b).2.2 a).2.2 h6
  simp only[rnT,okT,Q4t]
  exact⟨h1,by omega,by omega,⟨Qiv e1 h4,by rw[Q5a e1];exact h5⟩,h7⟩
theorem Qhu:∀(l:List Tr)(nm:Nm)(f:Int),okTs l->okTs (rnTs nm f l).1/\(rnTs nm f l).1.length=l.length
 |[],_,_,_=>⟨trivial,rfl⟩
 |t::l,nm,f,h=>by
  obtain⟨h1,h2⟩:=Qhu l (rnT nm f t).2.1 (rnT nm f t).2.2 h.2
  exact⟨⟨rnT_ok t nm f h.1,h1⟩,by simp only[rnTs,List.length_cons,h2]⟩
end
mutual
theorem Qat:∀(t:Tr)(nm:Nm)(f:Int),cntN (rnT nm f t).1=cntN t
 |.mk o n b k a,nm,f=>by simp only[rnT,cntN,Qen k]
theorem Qen:∀(l:List Tr)(nm:Nm)(f:Int),cntNs (rnTs nm f l).1=cntNs l
 |[],_,_=>rfl
 |t::l,nm,f=>by simp only[rnTs,cntNs,Qat t,Qen l]
end
end Go.CoreX
namespace Go.Proofs.YthboaankaaeemaaDoor
open Go Go.Abs Go.CoreX
variable {Γ:List (Nat×List AC)}
theorem nb_le{e:List Ex}(he:okB e)(h:IsTree e):nbE e<=4398046511104:=by
 have hel:=he.eo.l
 unfold nbE
 rw[←Q3v _ h]
 unfold labs
 rw[List.map_map,show (nbLab∘labE e)=fun x=>nbLab (labE e x)from rfl]
 have key:∀l:List Ex,(∀x∈l,x∈e)->(l.map fun x=>nbLab (labE e x)).sum<=l.length * 4194304:=by
  intro l
  induction l with
  |nil=>simp
  |cons x l ih=>
   intro hl
   have h1:=he.b x (hl x (by simp))
   have h2:=ih fun y hy=>hl y (by simp[hy])
   have h3:nbLab (labE e x)<=4194304:=by
    have h4:(x.alts.flatMap (·.binds)).length=(x.alts.map fun y=>y.binds.length).sum:=by simp[List.length_flatMap]
    simp only[nbLab,labE]
    rw[←h4]
    have h5:(if (labE e x).op=9 then 0 else x.binds.length)<=x.binds.length:=by split <;> omega
    have h6:(if (labE e x).op=9 then 0 else x.binds.length)+(x.alts.flatMap (·.binds)).length<=4194304:=by omega
    clear h5 h4 ih h2
    simp only[labE]at h6 ⊢
    generalize (if x.op=9 then 0 else x.binds.length)=q at h6 ⊢
    omega
   simp only[List.map_cons,List.sum_cons,List.length_cons]
   push_cast
   omega
 have:=key e fun _ h=>h
 have h2:(e.length:Int) * 4194304<=1048576 * 4194304:=Int.mul_le_mul_of_nonneg_right (by omega) (by omega)
 omega
theorem Qmc(e:List Ex)(he:okB e)(f:Int):APure Tryd.prog Γc 13 [.one (.sl 5 (e.map cEx)),.one (int f)] (.tup [.one (.sl 5 ((Q5l e f).1.map cEx)),.one (int (Q5l e f).2)]):=by
 have c1:=Qbn e he
 have hel:=he.eo.l
 intro ou
 refine AFn.forget ?_
 refine AFn.walk 27 tabOk Tryd.func13 rfl (by kernel_rfl) rfl rfl fun hou=>?_
 refine zA ?_
 refine zca hΓc c1 hou ?_
 refine zA ?_
 refine ACode.cond rfl (fun hb=>?_) (fun hb=>?_)
 ·have h:check e≠0:=by simpa using hb
  refine zA ?_
  refine AFn.fin' rfl (.trans (WkF.tup (.cons (.one (.nilS 5)) (.cons (.refl _) .nil))) (.ofEq ?_)) (by simp) hou ⟨ou,fun _ _ h=>h,rfl,rfl⟩
  unfold Q5l
  rw[if_pos h];rfl
 have h:check e=0:=by simpa using hb
 have t1:=Q15 h
 have hgt:=he.t t1.k t1.ne
 have hre:Q5l e f=if f < 0∨1048576 < f then ([],4)else if 1048576 < (rnT (fun _=>none) f (grow e)).2.2 then ([],4)else (listT [] (rnT (fun _=>none) f (grow e)).1,0):=by
  unfold Q5l
  rw[if_neg (by simpa using h)]
 rw[hre]
 clear hre
 refine zA ?_
 refine AOps.call1 hΓc rfl rfl rfl rfl rfl rfl rfl (by simp) hou (Qmg hΓc e he.eo t1.k t1 ou) fun r ov hq hids hov=>?_
 obtain⟨t,rfl,her,hok,hown,hnd,hnew,_,hold⟩:=hq
 have hfin:∀{ou':Outer},(∀j,j∉keys (objs t)->ou' j=ov j)->∀m o,ou m=some o->ou' m=some o:=fun {ou'} hu m o hm=>by
  rw[hu m fun hk=>by rw[hnew m hk]at hm;cases hm]
  exact hold m o hm
 have hnb:(nbL t:Int)=nbE e:=by rw[nbL_er,her];rfl
 have hnl:=nb_le he t1
 refine zA ?_
 refine AOps.splitS rfl rfl rfl rfl (fun hb2=>?_) (fun hb2=>?_)
 ·have h2:f < 0:=by simpa using hb2
  rw[if_pos (.inl h2)]
  refine zM ?_
  exact AFn.fin' rfl (WkF.tup (.cons (.one (.nilS 5)) (.cons (.refl _) .nil))) (by simp) hov ⟨ou,hfin fun _ _=>rfl,rfl,rfl⟩
 have h2:¬f < 0:=by simpa using hb2
 refine zM ?_
 refine ACode.cond rfl (fun hb3=>?_) (fun hb3=>?_)
 ·have h3:1048576 < f:=by simpa using hb3
  rw[if_pos (.inr h3)]
  refine zM ?_
  exact AFn.fin' rfl (WkF.tup (.cons (.one (.nilS 5)) (.cons (.refl _) .nil))) (by simp) hov ⟨ou,hfin fun _ _=>rfl,rfl,rfl⟩
 have h3:¬1048576 < f:=by simpa using hb3
 rw[if_neg (by omega)]
 have hrf:=rnL_er t nm0 f
 rw[her]at hrf
 refine zM ?_
 refine AOps.call1 hΓc rfl rfl rfl rfl rfl rfl rfl (by exact⟨trivial,trivial,trivial⟩) hov (Qk0 hΓc t hok ov hown hnd f (by omega) (by omega) hov) fun r ow hq hids how=>?_
 obtain⟨rfl,hO,hok2,hfr⟩:=hq
 rw[hrf.2]
 obtain⟨T,hTe⟩:∃T,T=rnT nm0 f (grow e):=⟨_,rfl⟩
 rw[←hTe]at hrf ⊢
 refine zM ?_
 refine ACode.cond rfl (fun hb4=>?_) (fun hb4=>?_)
 ·have h4:1048576 < T.2.2:=by simpa using hb4
  rw[if_pos h4]
  refine zM ?_
  exact AFn.fin' rfl (WkF.tup (.cons (.one (.nilS 5)) (.cons (.refl _) .nil))) (by simp) hok2 ⟨ou,hfin hfr,rfl,rfl⟩
 have h4:¬1048576 < T.2.2:=by simpa using hb4
 rw[if_neg h4]
 have hcl:(listT [] T.1).length<=1048576:=by
  have h5:=Q26 T.1 []
  have h6:=Q26 (grow e) []
  have h7:=Q5r h
  rw[hTe,Qat]at h5
  simp only[List.length_nil]at h5 h6
  rw[hTe];omega
 refine zM ?_
 refine AOps.freezeT (t:=(rnL nm0 f t).1) 25 hO (by rw[rnL_k];exact hnd) (by rw[rnL_id];rfl) ?_
 rw[hrf.1,rnL_k]
 have hokd:OuOk (deadL ow (keys (objs t))):=fun m o hm=>by
  unfold deadL at hm
  split at hm
  ·cases hm;trivial
  ·exact hok2 m o hm
 refine zca hΓc (Qk1 hΓc T.1 (by rw[hTe];exact rnT_ok _ _ _ hgt) hcl) hokd ?_
 refine zA ?_
 refine AFn.fin' rfl (WkF.ofEq rfl) (by simp) hokd ⟨ou,fun m o hm=>?_,rfl,rfl⟩
 show deadL ow (keys (objs t)) m=some o
 unfold deadL
 rw[if_neg fun hk=>by rw[hnew m hk]at hm;cases hm]
 exact hfin hfr m o hm
end Go.Proofs.YthboaankaaeemaaDoor
namespace Go.CoreX
-- What holds of all nodes.
mutual
def allT (p:Lab->Prop):Tr->Prop
 |.mk o n b k a=>p ⟨o,n,b,k.map Tr.op,a⟩/\allTs p k
def allTs (p:Lab->Prop):List Tr->Prop
 |[]=>True
 |t::l=>allT p t/\allTs p l
end
theorem Qcz{p:Lab->Prop}:∀{l:List Tr},allTs p l↔∀t∈l,allT p t
 |[]=>by simp[allTs]
 |t::l=>by simp[allTs,Qcz (l:=l)]
theorem Qjt{e:List Ex}(hk:Q0v e){p:Lab->Prop}(h:∀x∈e,p (labE e x)):∀(n i:Nat),i < n->i < e.length->allT p (Q45 e i)
 |0,i,hi,_=>by omega
 |n+1,i,hi,hl=>by
  obtain⟨x,hx⟩:∃x,e[i]?=some x:=⟨e[i],List.getElem?_eq_getElem hl⟩
  rw[Q3u hk hx]
  refine⟨?_,Qcz.2 fun t ht=>?_⟩
  ·have:=h x (List.mem_of_getElem? hx)
   simp only[labE]at this
   simp only[List.map_map]
   exact this
  ·obtain⟨q,hq,rfl⟩:=List.mem_map.1 ht
   have:=hk i x hx q hq
   exact Qjt hk h n q.toNat (by omega) (by omega)
theorem Q62{e:List Ex}(h:IsTree e){p:Lab->Prop}(hp:∀x∈e,p (labE e x)):allT p (grow e):=by
 have:=List.length_pos_iff.2 h.ne
 exact Qjt h.k hp _ (e.length - 1) (Nat.lt_succ_self _) (by omega)
structure shLab (l:Lab):Prop where
 b:l.op=2∨l.op=4∨l.op=5∨l.op=9∨l.binds=[]
 v:l.op=0->l.alts=[]/\l.ops=[]
theorem Qkg{x:Ex}(h:shape x=true)(e:List Ex):shLab (labE e x):=by
 unfold shape at h
 split at h
 ·rename_i h7
  simp only[Bool.and_eq_true,beq_iff_eq]at h
  refine⟨by simp only[labE];exact .inr (.inr (.inr (.inr (List.length_eq_zero_iff.1 h.1.2)))),fun h0=>?_⟩
  simp only[labE]at h0
  omega
 ·rename_i h7
  cases hw:wants x with
  |none=>rw[hw]at h;simp at h
  |some w=>
   obtain⟨k,b,u⟩:=w
   rw[hw]at h
   simp only[Bool.and_eq_true,beq_iff_eq]at h
   obtain⟨⟨⟨h1,h2⟩,h3⟩,_⟩:=h
   have ha:x.alts=[]:=List.length_eq_zero_iff.1 h3
   refine⟨?_,fun h0=>?_⟩
   ·simp only[labE]
    by_cases e2:x.op=2;· exact .inl e2
    by_cases e4:x.op=4;· exact .inr (.inl e4)
    by_cases e5:x.op=5;· exact .inr (.inr (.inl e5))
    by_cases e9:x.op=9;· exact .inr (.inr (.inr (.inl e9)))
    right;right;right;right
    have hb:b=0:=by
     unfold wants at hw
     simp only[e2,e4,e5,e9,if_false]at hw
     repeat' split at hw
     all_goals first
      |(cases hw;rfl)
      |(cases hw;done)
    exact List.length_eq_zero_iff.1 (by omega)
   ·simp only[labE]at h0 ⊢
    refine⟨ha,?_⟩
    unfold wants at hw
    rw[if_pos (.inl h0)]at hw
    cases hw
    have:x.kids=[]:=List.length_eq_zero_iff.1 (by omega)
    rw[this];rfl
theorem Q8r{e:List Ex}(h:check e=0):allT shLab (grow e):=Q62 (Q15 h) fun x hx=>Qkg (Q77 h x hx) e
-- The same up to renaming.
theorem Qi0:∀(a:List Alt)(nm:Nm)(f:Int),Q7i a (rnTA nm f a).1=true
 |[],_,_=>rfl
 |x::l,nm,f=>by simp[rnTA,Q7i,Q3k,Qi0 l]
theorem Qi1:∀(a:List Alt)(nm:Nm)(f:Int),(rnTA nm f a).1.length=a.length
 |[],_,_=>rfl
 |x::l,nm,f=>by simp[rnTA,Qi1 l]
theorem Q7w:∀(l l' r r':List Int)(m:Nm),l.length=l'.length->putsN m (l++r) (l'++r')=putsN (putsN m l l') r r'
 |[],[],r,r',m,_=>rfl
 |[],_::_,_,_,_,h=>by simp at h
 |_::_,[],_,_,_,h=>by simp at h
 |x::l,y::l',r,r',m,h=>by
  simp only[List.cons_append,putsN]
  exact Q7w l l' r r' _ (by simpa using h)
theorem Q3o:∀(a:List Alt)(nm:Nm)(f:Int),(rnTA nm f a).2.1=putsN nm (a.flatMap (·.binds)) ((rnTA nm f a).1.flatMap (·.binds))
 |[],_,_=>rfl
 |x::l,nm,f=>by
  simp only[rnTA,List.flatMap_cons]
  rw[Q7w _ _ _ _ _ (Q3k f x.binds).symm,Q3o l]
  rfl
theorem Qi9{o:Int}{b:List Int}(h:o=2∨o=4∨o=5∨o=9∨b=[])(nm:Nm)(f:Int):(ren1 o nm f b).2.1=putsN nm (if o=2∨o=4∨o=5 then b else []) (if o=2∨o=4∨o=5 then (ren1 o nm f b).1 else []):=by
 unfold ren1
 by_cases e9:o=9
 ·subst e9
  simp[putsN]
 ·rw[if_neg e9]
  by_cases e:o=2∨o=4∨o=5
  ·rw[if_pos e,if_pos e];rfl
  ·rw[if_neg e,if_neg e]
   have:b=[]:=by
    rcases h with h|h|h|h|h
    ·exact absurd (.inl h) e
    ·exact absurd (.inr (.inl h)) e
    ·exact absurd (.inr (.inr h)) e
    ·exact absurd h e9
    ·exact h
   subst this;rfl
def nmAt (o:Int)(nm:Nm)(f:Int)(b:List Int)(a:List Alt):Nm×Int:=(rnTA (ren1 o nm f b).2.1 (ren1 o nm f b).2.2 a).2
theorem Q4g{o n:Int}{b:List Int}{a:List Alt}{ops:List Int}(h:shLab ⟨o,n,b,ops,a⟩)(nm:Nm)(f:Int):
  (nmAt o nm f b a).1=putsN nm (Q08 o b a) (Q08 o (ren1 o nm f b).1 (rnTA (ren1 o nm f b).2.1 (ren1 o nm f b).2.2 a).1):=by
 have h1:=Qi9 (o:=o) (b:=b) (by have:=h.b;simpa using this) nm f
 unfold nmAt Q08
 rw[Q7w _ _ _ _ _ (by split <;> simp[Q4t]),←h1,Q3o]
theorem rnT_op(t:Tr)(nm:Nm)(f:Int):(rnT nm f t).1.op=t.op:=by cases t;rfl
theorem Qar:∀(l:List Tr)(nm:Nm)(f:Int),(rnTs nm f l).1.map Tr.op=l.map Tr.op
 |[],_,_=>rfl
 |t::l,nm,f=>by simp only[rnTs,List.map_cons,rnT_op,Qar l]
end Go.CoreX
namespace Go.CoreX
structure ShN (o n:Int)(b:List Int)(k:Nat)(a:List Alt):Prop where
 sh:∃ops:List Int,ops.length=k/\shape ⟨o,n,b,ops,a⟩=true
section
variable {o n:Int}{b:List Int}{k:Nat}{a:List Alt}
theorem ShN.want(h:ShN o n b k a)(h7:¬(o=7∨o=13)):∃w:Int×Int×Bool,(∃ops:List Int,ops.length=k/\wants ⟨o,n,b,ops,a⟩=some w)/\(k:Int)=w.1/\(b.length:Int)=w.2.1/\a=[]:=by
 obtain⟨ops,hl,h⟩:=h.sh
 unfold shape at h
 rw[if_neg h7]at h
 split at h
 ·cases h
 ·rename_i kk bb u hw
  simp only[Bool.and_eq_true,beq_iff_eq,List.length_eq_zero_iff]at h
  exact⟨_,⟨ops,hl,hw⟩,by rw[←hl];exact h.1.1.1,h.1.1.2,h.1.2⟩
theorem ShN.lam(h:ShN 2 n b k a):k=1/\a=[]:=by
 obtain⟨w,⟨ops,hl,hw⟩,h1,h2,h3⟩:=h.want (by omega)
 cases hw;exact⟨by simp at h1;omega,h3⟩
theorem ShN.app(h:ShN 3 n b k a):1<=k/\b=[]/\a=[]:=by
 obtain⟨w,⟨ops,hl,hw⟩,h1,h2,h3⟩:=h.want (by omega)
 cases hw
 refine⟨?_,List.length_eq_zero_iff.1 (by simp at h2;simp[h2]),h3⟩
 simp only at h1;split at h1 <;> omega
theorem ShN.lett(h:ShN 4 n b k a):k=2/\b.length=1/\a=[]:=by
 obtain⟨w,⟨ops,hl,hw⟩,h1,h2,h3⟩:=h.want (by omega)
 cases hw;exact⟨by simp at h1;omega,by simp at h2;omega,h3⟩
theorem ShN.recs(h:ShN 5 n b k a):k=b.length+1/\1<=b.length/\a=[]:=by
 obtain⟨w,⟨ops,hl,hw⟩,h1,h2,h3⟩:=h.want (by omega)
 cases hw
 refine⟨by simp at h1;omega,?_,h3⟩
 simp only at h2;split at h2 <;> omega
theorem ShN.prim(h:ShN 8 n b k a):0<=n/\n<=11/\(k:Int)=Q61.getD n.toNat 0/\b=[]/\a=[]:=by
 obtain⟨w,⟨ops,hl,hw⟩,h1,h2,h3⟩:=h.want (by omega)
 have hw:(if between n 0 11=true then some (Q61.getD n.toNat 0,(0:Int),true)else none)=some w:=hw
 split at hw
 ·rename_i hb
  cases hw
  simp[between]at hb
  exact⟨hb.1,hb.2,h1,List.length_eq_zero_iff.1 (by simp at h2;simp[h2]),h3⟩
 ·cases hw
theorem ShN.one(h:ShN o n b k a)(ho:o=10∨o=12∨o=16):k=1/\b=[]/\a=[]:=by
 obtain⟨w,⟨ops,hl,hw⟩,h1,h2,h3⟩:=h.want (by omega)
 rcases ho with rfl|rfl|rfl <;> (cases hw;exact⟨by simp at h1;omega,List.length_eq_zero_iff.1 (by simp at h2;simp[h2]),h3⟩)
theorem ShN.two(h:ShN 11 n b k a):k=2/\b=[]/\a=[]:=by
 obtain⟨w,⟨ops,hl,hw⟩,h1,h2,h3⟩:=h.want (by omega)
 cases hw;exact⟨by simp at h1;omega,List.length_eq_zero_iff.1 (by simp at h2;simp[h2]),h3⟩
theorem ShN.alts7(h:ShN o n b k a)(ho:o=7∨o=13):k=1+a.length/\b=[]/\(o=13->1<=a.length)/\∀i x,a[i]?=some x->Q3i ⟨o,n,b,[],a⟩ i x=false:=by
 obtain⟨ops,hl,h⟩:=h.sh
 unfold shape at h
 rw[if_pos ho]at h
 simp only[Bool.and_eq_true,beq_iff_eq,List.length_eq_zero_iff]at h
 obtain⟨⟨h1,h2⟩,h3⟩:=h
 unfold Q3s at h1
 simp only[Bool.and_eq_true,Bool.not_eq_true',beq_iff_eq,Bool.or_eq_true,decide_eq_true_eq]at h1
 obtain⟨h4,h5,h6⟩:=h1
 refine⟨by omega,h2,fun h13=>?_,fun i x hx=>?_⟩
 ·rcases h6 with h6|h6
  ·subst h13;cases h6
  ·omega
 ·rw[List.any_eq_false]at h4
  have:=h4 (x,i) (by rw[List.mk_mem_zipIdx_iff_getElem?];exact hx)
  simpa[Q3i]using this
end
end Go.CoreX
namespace Go.CoreX
def ind (a b k:Int):Int:=if a<=k/\k < b then 1 else 0
theorem Qba{a b c:Int}(k:Int)(h1:a<=b)(h2:b<=c):ind a b k+ind b c k=ind a c k:=by
 unfold ind
 split <;> split <;> split <;> omega
theorem Q8c(a k:Int):ind a a k=0:=by unfold ind;rw[if_neg (by omega)]
def cntB (k:Int)(l:Lab):Int:=((Q08 l.op l.binds l.alts).count k:Nat)
theorem Qco(f k:Int)(l:List Int):(((frB f l).count k:Nat):Int)=ind f (f+l.length) k:=by
 unfold frB
 generalize l.length=n
 induction n with
 |zero=>simp[Q8c]
 |succ n ih=>
  rw[List.range_succ,List.map_append,List.count_append]
  push_cast
  rw[ih]
  simp only[List.map_cons,List.map_nil,List.count_singleton]
  unfold ind
  by_cases h:f+(n:Int)=k
  ·subst h
   simp
   omega
  ·have h2:(f+(n:Int)==k)=false:=by simpa using h
   rw[h2]
   simp only[Bool.false_eq_true,if_false]
   split <;> split <;> omega
theorem Q7t:∀(a:List Alt)(nm:Nm)(f:Int),(rnTA nm f a).2.2=f+((a.map fun x=>x.binds.length).sum:Nat)
 |[],_,_=>by simp[rnTA]
 |x::l,nm,f=>by simp only[rnTA,Q7t l,List.map_cons,List.sum_cons];push_cast;omega
theorem Q9l(k:Int):∀(a:List Alt)(nm:Nm)(f:Int),((((rnTA nm f a).1.flatMap (·.binds)).count k:Nat):Int)=ind f (rnTA nm f a).2.2 k
 |[],nm,f=>by simp[rnTA,Q8c]
 |x::l,nm,f=>by
  have ih:=Q9l k l (frN nm f x.binds) (f+x.binds.length)
  simp only[rnTA,List.flatMap_cons,List.count_append]
  push_cast
  rw[ih,Qco,Qba k (by omega) (by rw[Q7t];omega)]
theorem Qdd(o:Int)(nm:Nm)(f:Int)(b:List Int):f<=(ren1 o nm f b).2.2:=by rw[Qc5];omega
mutual
theorem rnT_f:∀(t:Tr)(nm:Nm)(f:Int),f<=(rnT nm f t).2.2
 |.mk o n b k a,nm,f=>by
  have h1:=Qdd o nm f b
  have h2:=Q7t a (ren1 o nm f b).2.1 (ren1 o nm f b).2.2
  have h3:=Q9h k (rnTA (ren1 o nm f b).2.1 (ren1 o nm f b).2.2 a).2.1 (rnTA (ren1 o nm f b).2.1 (ren1 o nm f b).2.2 a).2.2
  simp only[rnT];omega
theorem Q9h:∀(l:List Tr)(nm:Nm)(f:Int),f<=(rnTs nm f l).2.2
 |[],_,f=>by simp[rnTs]
 |t::l,nm,f=>by
  have h1:=rnT_f t nm f
  have h2:=Q9h l (rnT nm f t).2.1 (rnT nm f t).2.2
  simp only[rnTs];omega
end
mutual
theorem Q7s(k:Int):∀(t:Tr)(nm:Nm)(f:Int),allT shLab t->sumT (cntB k) (rnT nm f t).1=ind f (rnT nm f t).2.2 k
 |.mk o n b ks a,nm,f,h=>by
  obtain⟨h1,h2⟩:=h
  have hk:=Q9j k ks (rnTA (ren1 o nm f b).2.1 (ren1 o nm f b).2.2 a).2.1 (rnTA (ren1 o nm f b).2.1 (ren1 o nm f b).2.2 a).2.2 h2
  have ha:=Q9l k a (ren1 o nm f b).2.1 (ren1 o nm f b).2.2
  have hf1:=Qdd o nm f b
  have hf2:=Q7t a (ren1 o nm f b).2.1 (ren1 o nm f b).2.2
  have hf3:=Q9h ks (rnTA (ren1 o nm f b).2.1 (ren1 o nm f b).2.2 a).2.1 (rnTA (ren1 o nm f b).2.1 (ren1 o nm f b).2.2 a).2.2
  simp only[rnT,sumT,cntB,Q08,List.count_append]
  push_cast
  rw[hk,ha]
  have hb:(((if o=2∨o=4∨o=5 then (ren1 o nm f b).1 else []).count k:Nat):Int)=ind f (ren1 o nm f b).2.2 k:=by
   have hs:=h1.b
   simp only at hs
   by_cases e:o=2∨o=4∨o=5
   ·rw[if_pos e]
    have e9:o≠9:=by omega
    unfold ren1
    rw[if_neg e9]
    exact Qco f k b
   ·rw[if_neg e]
    unfold ren1
    by_cases e9:o=9
    ·rw[if_pos e9];simp[Q8c]
    ·rw[if_neg e9]
     have:b=[]:=by
      rcases hs with h|h|h|h|h
      ·exact absurd (.inl h) e
      ·exact absurd (.inr (.inl h)) e
      ·exact absurd (.inr (.inr h)) e
      ·exact absurd h e9
      ·exact h
     subst this
     simp[Q8c]
  rw[hb,Qba k hf1 (by omega),Qba k (by omega) hf3]
theorem Q9j(k:Int):∀(l:List Tr)(nm:Nm)(f:Int),allTs shLab l->sumTs (cntB k) (rnTs nm f l).1=ind f (rnTs nm f l).2.2 k
 |[],nm,f,_=>by simp[rnTs,sumTs,Q8c]
 |t::l,nm,f,h=>by
  have h1:=Q7s k t nm f h.1
  have h2:=Q9j k l (rnT nm f t).2.1 (rnT nm f t).2.2 h.2
  simp only[rnTs,sumTs,h1,h2]
  exact Qba k (rnT_f t nm f) (Q9h l _ _)
end
theorem Qbj(k:Int)(T:Tr):(((Q06 (listT [] T)).count k:Nat):Int)=sumT (cntB k) T:=by
 rw[Q2o,Q6t]
 have:=Q3v (cntB k) (Q1f T)
 rw[Q2n]at this
 rw[←this];rfl
theorem Qg9{T:Tr}(h:allT shLab T)(nm:Nm)(f k:Int):(((Q06 (listT [] (rnT nm f T).1)).count k:Nat):Int)=ind f (rnT nm f T).2.2 k:=by
 rw[Qbj,Q7s k T nm f h]
theorem Qkl{T:Tr}(h:allT shLab T)(nm:Nm)(f:Int):(Q06 (listT [] (rnT nm f T).1)).Nodup:=by
 rw[List.nodup_iff_count]
 intro k
 have:=Qg9 h nm f k
 unfold ind at this
 split at this <;> omega
-- Depth.
mutual
theorem Qc1:∀(t:Tr)(nm:Nm)(f:Int),Q25 (rnT nm f t).1=Q25 t
 |.mk o n b k a,nm,f=>by simp only[rnT,Q25,Q9i k]
theorem Q9i:∀(l:List Tr)(nm:Nm)(f:Int),Q4m (rnTs nm f l).1=Q4m l
 |[],_,_=>rfl
 |t::l,nm,f=>by simp only[rnTs,Q4m,Qc1 t,Q9i l]
end
-- Names that a tree does not bind keep their new names.
mutual
def bndT:Tr->List Int
 |.mk o _ b k a=>Q08 o b a++bndTs k
def bndTs:List Tr->List Int
 |[]=>[]
 |t::l=>bndT t++bndTs l
end
theorem Q18:∀(l r:List Int)(m:Nm)(k:Int),k∉l->putsN m l r k=m k
 |[],_,_,_,_=>rfl
 |_::_,[],_,_,_=>rfl
 |x::l,y::r,m,k,h=>by
  simp only[List.mem_cons,not_or]at h
  simp only[putsN]
  rw[Q18 l r _ k h.2]
  unfold setN
  rw[if_neg (Ne.symm h.1)]
mutual
theorem Qas(k:Int):∀(t:Tr)(nm:Nm)(f:Int),allT shLab t->k∉bndT t->(rnT nm f t).2.1 k=nm k
 |.mk o n b ks a,nm,f,h,hk=>by
  simp only[bndT,List.mem_append,not_or]at hk
  have h1:=Q3n k ks (nmAt o nm f b a).1 (nmAt o nm f b a).2 h.2 hk.2
  have h2:=Q4g h.1 nm f
  show (rnTs (nmAt o nm f b a).1 (nmAt o nm f b a).2 ks).2.1 k=_
  rw[h1,h2,Q18 _ _ _ _ hk.1]
theorem Q3n(k:Int):∀(l:List Tr)(nm:Nm)(f:Int),allTs shLab l->k∉bndTs l->(rnTs nm f l).2.1 k=nm k
 |[],_,_,_,_=>rfl
 |t::l,nm,f,h,hk=>by
  simp only[bndTs,List.mem_append,not_or]at hk
  simp only[rnTs]
  rw[Q3n k l _ _ h.2 hk.2,Qas k t nm f h.1 hk.1]
end
theorem Qav:∀{l r:List Int}{m:Nm}{j:Nat}{k:Int},l.Nodup->l.length=r.length->l[j]?=some k->putsN m l r k=r[j]?
 |[],_,_,_,_,_,_,h=>by simp at h
 |_::_,[],_,_,_,_,h,_=>by simp at h
 |x::l,y::r,m,j,k,hn,hl,h=>by
  simp only[List.nodup_cons]at hn
  simp only[putsN]
  cases j with
  |zero=>
   simp at h;subst h
   rw[Q18 _ _ _ _ hn.1]
   simp[setN]
  |succ j=>simpa using Qav (m:=setN m x y) hn.2 (by simpa using hl) (by simpa using h)
theorem Q4o{o:Int}{b:List Int}{a:List Alt}{j k:Int}(h:k∈Q1c o b a j):k∈Q08 o b a:=by
 unfold Q1c at h
 unfold Q08
 split at h
 ·rename_i e
  rw[if_pos (by omega)]
  exact List.mem_append.2 (.inl h)
 ·split at h
  ·rename_i e1 e2
   refine List.mem_append.2 (.inr (List.mem_flatMap.2 ⟨_,?_,h⟩))
   have hl:(j - 1).toNat < a.length:=by omega
   rw[List.getD_eq_getElem?_getD,List.getElem?_eq_getElem hl]
   exact List.getElem_mem hl
  ·simp at h
theorem frN_at{nm:Nm}{f k:Int}{b:List Int}(hn:b.Nodup)(h:k∈b):∃v,frN nm f b k=some v/\v∈frB f b:=by
 obtain⟨j,hj⟩:=List.mem_iff_getElem?.1 h
 have hlt:=(List.getElem?_eq_some_iff.1 hj).1
 have:=Qav (m:=nm) (r:=frB f b) hn (Q3k f b).symm hj
 rw[Qdq hlt]at this
 exact⟨_,this,List.mem_of_getElem? (Qdq hlt)⟩
theorem Qi2:∀{a:List Alt}{nm:Nm}{f k:Int}{q:Nat}{x:Alt},(a.flatMap (·.binds)).Nodup->a[q]?=some x->k∈x.binds->∃v y,(rnTA nm f a).2.1 k=some v/\(rnTA nm f a).1[q]?=some y/\v∈y.binds
 |[],_,_,_,_,_,_,h,_=>by simp at h
 |z::l,nm,f,k,q,x,hn,hx,hk=>by
  simp only[List.flatMap_cons,List.nodup_append]at hn
  cases q with
  |zero=>
   simp at hx;subst hx
   obtain⟨v,h1,h2⟩:=frN_at (nm:=nm) (f:=f) hn.1 hk
   refine⟨v,⟨z.tag,frB f z.binds⟩,?_,rfl,h2⟩
   simp only[rnTA]
   rw[Q3o,Q18 _ _ _ _ (fun hm=>hn.2.2 k hk k hm rfl)]
   exact h1
  |succ q=>
   obtain⟨v,y,h1,h2,h3⟩:=Qi2 (nm:=frN nm f z.binds) (f:=f+z.binds.length) hn.2.1 (by simpa using hx) hk
   exact⟨v,y,h1,by simpa[rnTA]using h2,h3⟩
theorem Ql5{o n:Int}{b:List Int}{a:List Alt}{ops:List Int}(hs:shLab ⟨o,n,b,ops,a⟩)(hn:(Q08 o b a).Nodup)(nm:Nm)(f j k:Int)(h:k∈Q1c o b a j):
  ∃v,(nmAt o nm f b a).1 k=some v/\v∈Q1c o (ren1 o nm f b).1 (rnTA (ren1 o nm f b).2.1 (ren1 o nm f b).2.2 a).1 j:=by
 unfold Q08 at hn
 rw[List.nodup_append]at hn
 unfold Q1c at h ⊢
 by_cases e:o=2∨o=5∨(o=4/\j=1)
 ·rw[if_pos e]at h ⊢
  rw[if_pos (by omega)]at hn
  have e9:o≠9:=by omega
  unfold nmAt ren1
  rw[if_neg e9]
  obtain⟨v,h1,h2⟩:=frN_at (nm:=nm) (f:=f) hn.1 h
  refine⟨v,?_,h2⟩
  simp only
  rw[Q3o,Q18 _ _ _ _ (fun hm=>hn.2.2 k h k hm rfl)]
  exact h1
 ·rw[if_neg e]at h ⊢
  rw[Qi1]
  split at h
  ·rename_i e2
   rw[if_pos e2]
   have hl:(j - 1).toNat < a.length:=by omega
   rw[List.getD_eq_getElem?_getD,List.getElem?_eq_getElem hl]at h
   obtain⟨v,y,h1,h2,h3⟩:=Qi2 (nm:=(ren1 o nm f b).2.1) (f:=(ren1 o nm f b).2.2) hn.2.1 (List.getElem?_eq_getElem hl) h
   refine⟨v,h1,?_⟩
   rw[List.getD_eq_getElem?_getD,h2]
   exact h3
  ·simp at h
mutual
theorem Q9k:∀(t:Tr)(nm:Nm)(f:Int)(sc sc':List Int),allT shLab t->(bndT t).Nodup->(∀k∈bndT t,k∉sc)->(∀k∈sc,∃v,nm k=some v/\v∈sc')->occT sc t=[]->occT sc' (rnT nm f t).1=[]
 |.mk o n b ks a,nm,f,sc,sc',hs,hn,hd,hm,ho=>by
  simp only[bndT,List.nodup_append]at hn
  simp only[occT,List.append_eq_nil_iff]at ho
  have hks:=Q7r ks (nmAt o nm f b a).1 (nmAt o nm f b a).2 0 o b a (ren1 o nm f b).1 (rnTA (ren1 o nm f b).2.1 (ren1 o nm f b).2.2 a).1 sc sc' hs.2 hn.2.1
   (fun k hk => ⟨hd k (by simp only [bndT, List.mem_append]; exact .inr hk), fun h => hn.2.2 k h k hk rfl⟩)
   (fun k hk => by
    rw[Q4g hs.1,Q18 _ _ _ _ (fun h=>hd k (by simp only[bndT,List.mem_append];exact .inl h) hk)]
    exact hm k hk) (fun j k hk=>Ql5 hs.1 hn.1 nm f j k hk) ho.2
  have hR:(rnT nm f (.mk o n b ks a)).1=.mk o (if o=0 then (nm n).getD n else n) (ren1 o nm f b).1 (rnTs (nmAt o nm f b a).1 (nmAt o nm f b a).2 ks).1 (rnTA (ren1 o nm f b).2.1 (ren1 o nm f b).2.2 a).1:=rfl
  rw[hR]
  simp only[occT,hks,List.append_nil]
  by_cases e0:o=0
  ·subst e0
   have h1:sc.contains n=true:=by
    cases hc:sc.contains n with
    |true=>rfl
    |false=>have:=ho.1;rw[if_pos ⟨rfl,hc⟩]at this;cases this
   obtain⟨v,h2,h3⟩:=hm n (by simpa using h1)
   rw[if_neg]
   rintro⟨_,h4⟩
   rw[if_pos rfl,h2]at h4
   simp only[Option.getD_some]at h4
   have:sc'.contains v=true:=by simpa using h3
   rw[this]at h4;cases h4
  ·rw[if_neg (fun h=>e0 h.1)]
theorem Q7r:∀(l:List Tr)(nm:Nm)(f:Int)(i:Nat)(o:Int)(b:List Int)(a:List Alt)(b':List Int)(a':List Alt)(sc sc':List Int),allTs shLab l->(bndTs l).Nodup->(∀k∈bndTs l,k∉sc/\k∉Q08 o b a)->(∀k∈sc,∃v,nm k=some v/\v∈sc') ->
  (∀ j k, k ∈ Q1c o b a j -> ∃ v, nm k = some v /\ v ∈ Q1c o b' a' j) -> occTs sc o b a i l = [] -> occTs sc' o b' a' i (rnTs nm f l).1 = []
 | [], _, _, _, _, _, _, _, _, _, _, _, _, _, _, _, _ => rfl
 |t::l,nm,f,i,o,b,a,b',a',sc,sc',hs,hn,hd,hm,hb,ho=>by
  simp only[bndTs,List.nodup_append]at hn
  simp only[occTs,List.append_eq_nil_iff]at ho
  have ht:=Q9k t nm f (Q1c o b a i++sc) (Q1c o b' a' i++sc') hs.1 hn.1
   (fun k hk h => by
    have:=hd k (by simp only[bndTs,List.mem_append];exact .inl hk)
    rcases List.mem_append.1 h with h|h
    ·exact this.2 (Q4o h)
    ·exact this.1 h)
   (fun k hk => by
    rcases List.mem_append.1 hk with h|h
    ·obtain⟨v,h1,h2⟩:=hb i k h
     exact⟨v,h1,List.mem_append.2 (.inl h2)⟩
    ·obtain⟨v,h1,h2⟩:=hm k h
     exact⟨v,h1,List.mem_append.2 (.inr h2)⟩) ho.1
  have hkeep:∀k,k∈sc∨k∈Q08 o b a->(rnT nm f t).2.1 k=nm k:=fun k hk=>Qas k t nm f hs.1 fun h=>by
   have:=hd k (by simp only[bndTs,List.mem_append];exact .inl h)
   rcases hk with hk|hk
   ·exact this.1 hk
   ·exact this.2 hk
  have hl:=Q7r l (rnT nm f t).2.1 (rnT nm f t).2.2 (i+1) o b a b' a' sc sc' hs.2 hn.2.1 (fun k hk=>hd k (by simp only[bndTs,List.mem_append];exact .inr hk))
   (fun k hk=>by rw[hkeep k (.inl hk)];exact hm k hk) (fun j k hk=>by rw[hkeep k (.inr (Q4o hk))];exact hb j k hk) ho.2
  simp only[rnTs,occTs,ht,hl];rfl
end
end Go.CoreX
namespace Go.CoreX
def tl (a:Alt):Int×Nat:=(a.tag,a.binds.length)
theorem Qhc{α β:Type}(g:α->β)(f:β×Nat->Bool):∀(l:List α)(i:Nat),(l.zipIdx i).any (fun x=>f (g x.1,x.2))=((l.map g).zipIdx i).any f
 |[],i=>rfl
 |x::l,i=>by simp only[List.zipIdx_cons,List.any_cons,List.map_cons,Qhc g f l (i+1)]
def Qe3 (op:Int)(L:List (Int×Nat))(p:(Int×Nat)×Nat):Bool:=
 ((L.take p.2).any (fun b=>b.1==p.1.1)||decide (p.1.1 < -1)) ||
 (op==7&&p.1.1==-1&&(decide ((p.2:Int) < L.length - 1)||decide (0 < p.1.2))) ||
 ((op==13&&!(((p.2:Int)==0)==(p.1.1==-1)))||(op==13&&!((p.1.2:Int)==(if 2 < (p.2:Int)+1 then 2 else (p.2:Int)+1))))
theorem Qm9(x:Ex)(i:Nat)(a:Alt):Q3i x i a=Qe3 x.op (x.alts.map tl) (tl a,i):=by
 simp only[Q3i,Qe3,tl,List.length_map,←List.map_take,List.any_map,Function.comp_def]
 rfl
theorem Qjs{x y:Ex}(ho:x.op=y.op)(hk:x.kids.length=y.kids.length)(ha:x.alts.map tl=y.alts.map tl):Q3s x=Q3s y:=by
 have hl:x.alts.length=y.alts.length:=by simpa using congrArg List.length ha
 unfold Q3s
 have e:∀z:Ex,(z.alts.zipIdx.any fun ai=>Q3i z ai.2 ai.1)=(z.alts.map tl).zipIdx.any (Qe3 z.op (z.alts.map tl)):=fun z=>by
  rw[←Qhc tl]
  congr 1
  funext ai
  exact Qm9 z ai.2 ai.1
 rw[e x,e y,ha,ho,hk,hl]
theorem Qk7{x y:Ex}(ho:x.op=y.op)(hk:x.kids.length=y.kids.length)(hb:x.binds.length=y.binds.length)(hn:x.op≠0->x.n=y.n):wants x=wants y:=by
 unfold wants
 rw[ho,hk,hb]
 by_cases e:y.op=0
 ·rw[if_pos (.inl e),if_pos (.inl e)]
 ·rw[hn (by rw[ho];exact e)]
theorem Qkf{x y:Ex}(ho:x.op=y.op)(hk:x.kids.length=y.kids.length)(hb:x.binds.length=y.binds.length)(hn:x.op≠0->x.n=y.n)(ha:x.alts.map tl=y.alts.map tl):shape x=shape y:=by
 have hl:x.alts.length=y.alts.length:=by simpa using congrArg List.length ha
 unfold shape
 rw[Qjs ho hk ha,Qk7 ho hk hb hn,hb,hk,hl]
 by_cases e:y.op=0
 ·have e2:x.op=0:=by rw[ho];exact e
  rw[if_neg (by omega),if_neg (by omega)]
  unfold wants
  rw[if_pos (.inl e)]
  simp
 ·rw[ho,hn (by rw[ho];exact e)]
theorem Qjj{x y:Ex}(hb:x.binds.length=y.binds.length)(ha:x.alts.map tl=y.alts.map tl):fields x=fields y:=by
 have e:∀(l:List Alt) (c:Int),l.foldl (fun f a=>if (a.binds.length:Int) > f then (a.binds.length:Int)else f) c=(l.map tl).foldl (fun f p=>if (p.2:Int) > f then (p.2:Int)else f) c:=fun l=>by
  induction l with
  |nil=>intro c;rfl
  |cons a l ih=>intro c;simp only[List.foldl_cons,List.map_cons,ih,tl]
 unfold fields
 rw[e,e,ha,hb]
theorem Q8x{op:Int}:∀{l r:List Alt},l.map tl=r.map tl->l.all (Q28 op)=true->(∀a∈r,a.binds.all Q20=true)->r.all (Q28 op)=true
 |[],[],_,_,_=>rfl
 |[],_::_,h,_,_=>by simp at h
 |_::_,[],h,_,_=>by simp at h
 |a::l,b::r,h,hl,hr=>by
  simp only[List.map_cons,List.cons.injEq,tl,Prod.mk.injEq]at h
  simp only[List.all_cons,Bool.and_eq_true]at hl ⊢
  refine⟨?_,Q8x h.2 hl.2 fun c hc=>hr c (by simp[hc])⟩
  have h1:=hl.1
  have h2:=hr b (by simp)
  unfold Q28 at h1 ⊢
  simp only[Bool.and_eq_true]at h1 ⊢
  rw[←h.1.1]
  exact⟨h1.1,h2⟩
theorem Qkz{e f:List Ex}{x y:Ex}(ho:x.op=y.op)(hk:x.kids.length=y.kids.length)(hb:x.binds.length=y.binds.length)(hn:x.op≠0->x.n=y.n)(hn0:y.op=0->between y.n 0 1048575=true)(ha:x.alts.map tl=y.alts.map tl)
  (hib:y.binds.all Q20=true) (hia:∀a∈y.alts,a.binds.all Q20=true) (h9:x.op=9->y.binds=x.binds) (hko:∀i,i < x.kids.length->(e.getD (x.kids.getD i 0).toNat ⟨0,0,[],[],[]⟩).op=(f.getD (y.kids.getD i 0).toNat ⟨0,0,[],[],[]⟩).op)
  (h:Q0d false e x=0):Q0d false f y=0:=by
 unfold Q0d at h ⊢
 rw[←ho]
 split at h
 ·cases h
 ·rename_i hfl
  rw[if_neg hfl]
  unfold Q1o at h ⊢
  rw[←Qkf ho hk hb hn ha]
  split at h
  ·cases h
  ·rename_i hsh
   rw[if_neg hsh]
   have hsh':shape x=true:=by simpa using hsh
   split at h
   ·rename_i hr;exact absurd h hr
   ·rename_i hr
    have hr':ranges x=0:=by simpa using hr
    have hry:ranges y=0:=by
     unfold ranges at hr' ⊢
     split at hr'
     ·cases hr'
     ·rename_i r1
      split at hr'
      ·cases hr'
      ·split at hr'
       ·cases hr'
       ·rename_i r3
        have r1':between y.n (lowN y.op) (highN y.op)=true:=by
         by_cases e0:y.op=0
         ·have:=hn0 e0
          rw[e0];simpa[lowN,highN]using this
         ·rw[←ho,←hn (by rw[ho];exact e0)]
          simpa using r1
        have r3':y.alts.all (Q28 y.op)=true:=Q8x ha (by rw[←ho];simpa using r3) hia
        rw[if_neg (by simp[r1']),if_neg (by simp[hib]),if_neg (by simp[r3']),←ho,←Qjj hb ha,←hk]
        exact hr'
    rw[if_neg (by simp[hry])]
    split at h
    ·cases h
    ·rename_i hbb
     rw[if_neg]
     intro hbad
     obtain⟨i,hi,hbi⟩:=List.any_eq_true.1 hbad
     refine hbb (List.any_eq_true.2 ⟨i,?_,?_⟩)
     ·rw[hb];exact hi
     ·have hil:i < y.binds.length:=by simpa using hi
      unfold Q1i at hbi ⊢
      rw[←ho]at hbi
      by_cases e5:x.op=5
      ·have h5:=Q9e hsh' e5
       rw[hko i (by omega)]
       have e9:¬x.op=9:=by omega
       simp only[e5]at hbi ⊢
       simpa using hbi
      ·by_cases e9:x.op=9
       ·have hbx:=h9 e9
        rw[hbx]at hbi
        simp only[e9]at hbi ⊢
        simpa using hbi
       ·simp[e5,e9]at hbi
end Go.CoreX
namespace Go.CoreX
def pLab (l:Lab):Prop:=∀(e:List Ex)(x:Ex),(∀k∈x.kids,0<=k/\k < (e.length:Int))->labE e x=l->Q0d false e x=0
def nmR (nm:Nm):Prop:=∀k v,nm k=some v->0<=v/\v<=1048575
theorem nmR_set{nm:Nm}(h:nmR nm)(k:Int){v:Int}(hv:0<=v/\v<=1048575):nmR (setN nm k v):=fun j u hu=>by
 unfold setN at hu
 split at hu
 ·cases hu;exact hv
 ·exact h j u hu
theorem Qf4:∀(l r:List Int){nm:Nm},nmR nm->(∀v∈r,0<=v/\v<=1048575)->nmR (putsN nm l r)
 |[],_,_,h,_=>h
 |_::_,[],_,h,_=>h
 |x::l,y::r,nm,h,hr=>Qf4 l r (nmR_set h x (hr y (by simp))) fun v hv=>hr v (by simp[hv])
theorem frB_mem{f v:Int}{l:List Int}(h:v∈frB f l):f<=v/\v < f+l.length:=by
 unfold frB at h
 obtain⟨i,hi,rfl⟩:=List.mem_map.1 h
 have:=List.mem_range.1 hi
 omega
theorem Qdp{f:Int}{l:List Int}(h0:0<=f)(h1:f+l.length<=1048576):∀v∈frB f l,0<=v/\v<=1048575:=fun v hv=>by have:=frB_mem hv;omega
theorem Qa3{v:Int}(h:0<=v/\v<=1048575):Q20 v=true:=by simp[Q20,between];omega
theorem Qep:∀(a:List Alt)(nm:Nm)(f:Int),0<=f->(rnTA nm f a).2.2<=1048576->∀x∈(rnTA nm f a).1,∀v∈x.binds,0<=v/\v<=1048575
 |[],_,_,_,_,x,hx=>by simp[rnTA]at hx
 |y::l,nm,f,h0,h1,x,hx=>by
  have h2:=Q7t l (frN nm f y.binds) (f+y.binds.length)
  simp only[rnTA]at h1 hx
  rcases List.mem_cons.1 hx with rfl|hx
  ·exact Qdp h0 (by omega)
  ·exact Qep l _ _ (by omega) h1 x hx
theorem Qhz:∀(a:List Alt)(nm:Nm)(f:Int),(rnTA nm f a).1.map tl=a.map tl
 |[],_,_=>rfl
 |x::l,nm,f=>by simp only[rnTA,List.map_cons,Qhz l,tl,Q3k]
theorem Qky{e:List Ex}{x:Ex}(h:Q0d false e x=0):between x.n (lowN x.op) (highN x.op)=true/\x.binds.all Q20=true/\x.alts.all (Q28 x.op)=true:=by
 unfold Q0d at h
 split at h
 ·cases h
 ·unfold Q1o at h
  split at h
  ·cases h
  ·split at h
   ·rename_i hr;exact absurd h hr
   ·rename_i hr
    have hr':ranges x=0:=by simpa using hr
    unfold ranges at hr'
    split at hr'
    ·cases hr'
    ·rename_i r1
     split at hr'
     ·cases hr'
     ·rename_i r2
      split at hr'
      ·cases hr'
      ·rename_i r3
       exact⟨by simpa using r1,by simpa using r2,by simpa using r3⟩
mutual
theorem Qeo:∀(t:Tr)(nm:Nm)(f:Int),allT pLab t->allT shLab t->nmR nm->0<=f->(rnT nm f t).2.2<=1048576->allT pLab (rnT nm f t).1/\nmR (rnT nm f t).2.1
 |.mk o n b ks a,nm,f,hp,hs,hm,h0,h1=>by
  have hf1:=Qdd o nm f b
  have hf1e:=Qc5 o nm f b
  have hf2:=Q7t a (ren1 o nm f b).2.1 (ren1 o nm f b).2.2
  have hf3:=Q9h ks (nmAt o nm f b a).1 (nmAt o nm f b a).2
  have h1':(rnTs (nmAt o nm f b a).1 (nmAt o nm f b a).2 ks).2.2<=1048576:=h1
  have hn2:(nmAt o nm f b a).2=(rnTA (ren1 o nm f b).2.1 (ren1 o nm f b).2.2 a).2.2:=rfl
  have hb':∀v∈(if o=2∨o=4∨o=5 then (ren1 o nm f b).1 else []),0<=v/\v<=1048575:=fun v hv=>by
   split at hv
   ·rename_i e
    have e9:o≠9:=by omega
    unfold ren1 at hv
    rw[if_neg e9]at hv
    rw[if_neg e9]at hf1e
    exact Qdp h0 (by omega) v hv
   ·simp at hv
  have ha':=Qep a (ren1 o nm f b).2.1 (ren1 o nm f b).2.2 (by omega) (by omega)
  have hm1:nmR (nmAt o nm f b a).1:=by
   rw[Q4g hs.1]
   refine Qf4 _ _ hm fun v hv=>?_
   unfold Q08 at hv
   rcases List.mem_append.1 hv with hv|hv
   ·exact hb' v hv
   ·obtain⟨x,hx,hvx⟩:=List.mem_flatMap.1 hv
    exact ha' x hx v hvx
  obtain⟨hk1,hk2⟩:=Qc0 ks (nmAt o nm f b a).1 (nmAt o nm f b a).2 hp.2 hs.2 hm1 (by omega) h1'
  refine⟨⟨?_,hk1⟩,hk2⟩
  intro g y hyk hyl
  have hyl':labE g y=⟨o,if o=0 then (nm n).getD n else n,(ren1 o nm f b).1,(rnTs (nmAt o nm f b a).1 (nmAt o nm f b a).2 ks).1.map Tr.op,(rnTA (ren1 o nm f b).2.1 (ren1 o nm f b).2.2 a).1⟩:=hyl
  rw[Qar]at hyl'
  simp only[labE,Lab.mk.injEq]at hyl'
  obtain⟨yo,yn,yb,yk,ya⟩:=hyl'
  have hx:Q0d false g ⟨y.op,n,b,y.kids,a⟩=0:=by
   refine hp.1 g _ hyk ?_
   simp only[labE,yo,yk]
  obtain⟨x1,x2,x3⟩:=Qky hx
  refine Qkz (e:=g) (x:=⟨y.op,n,b,y.kids,a⟩) rfl rfl (by rw[yb,Q4t]) (fun h=>?_) (fun h=>?_) (by rw[ya,Qhz]) ?_ (fun z hz=>?_) (fun h=>?_) (fun i hi=>rfl) hx
  ·simp only at h ⊢
   rw[yn,if_neg (by rw[←yo];exact h)]
  ·have e0:o=0:=by rw[←yo];exact h
   rw[yn,if_pos e0]
   cases hnm:nm n with
   |none=>
    simp only[yo,e0,lowN,highN]at x1
    simpa using x1
   |some v=>
    have:=hm n v hnm
    simp[between];omega
  ·rw[yb,List.all_eq_true]
   intro v hv
   by_cases e9:o=9
   ·unfold ren1 at hv
    rw[if_pos e9]at hv
    exact List.all_eq_true.1 x2 v hv
   ·unfold ren1 at hv
    rw[if_neg e9]at hv
    rw[if_neg e9]at hf1e
    exact Qa3 (Qdp h0 (by omega) v hv)
  ·rw[ya]at hz
   rw[List.all_eq_true]
   exact fun v hv=>Qa3 (ha' z hz v hv)
  ·have e9:o=9:=by rw[←yo];exact h
   rw[yb]
   unfold ren1
   rw[if_pos e9]
theorem Qc0:∀(l:List Tr)(nm:Nm)(f:Int),allTs pLab l->allTs shLab l->nmR nm->0<=f->(rnTs nm f l).2.2<=1048576->allTs pLab (rnTs nm f l).1/\nmR (rnTs nm f l).2.1
 |[],nm,f,_,_,hm,_,_=>⟨trivial,hm⟩
 |t::l,nm,f,hp,hs,hm,h0,h1=>by
  have hf:=rnT_f t nm f
  have hf2:=Q9h l (rnT nm f t).2.1 (rnT nm f t).2.2
  simp only[rnTs]at h1 ⊢
  obtain⟨a1,a2⟩:=Qeo t nm f hp.1 hs.1 hm h0 (by omega)
  obtain⟨b1,b2⟩:=Qc0 l _ _ hp.2 hs.2 a2 (by omega) h1
  exact⟨⟨a1,b1⟩,b2⟩
end
theorem sum0{α:Type}{f:α->Int}:∀{l:List α},(∀x∈l,0<=f x)->(l.map f).sum=0->∀x∈l,f x=0
 | [], _, _, x, hx => by simp at hx
 |y::l,h,hs,x,hx=>by
  have h1:=h y (by simp)
  have h2:∀z∈l,0<=f z:=fun z hz=>h z (by simp[hz])
  have h3:0<=(l.map f).sum:=by
   clear h h1 hs hx
   induction l with
   |nil=>simp
   |cons z l ih=>
    have:=h2 z (by simp)
    have:=ih fun y hy=>h2 y (by simp[hy])
    simp only[List.map_cons,List.sum_cons];omega
  simp only[List.map_cons,List.sum_cons]at hs
  rcases List.mem_cons.1 hx with rfl|hx
  ·omega
  ·exact sum0 h2 (by omega) x hx
open Classical in
mutual
theorem Qhl{p:Lab->Prop}:∀t:Tr,allT p t->sumT (fun l=>if p l then 0 else 1) t=0
 |.mk o n b k a,h=>by
  simp only[sumT,Qee k h.2]
  rw[if_pos h.1];rfl
theorem Qee{p:Lab->Prop}:∀l:List Tr,allTs p l->sumTs (fun l=>if p l then 0 else 1) l=0
 |[],_=>rfl
 |t::l,h=>by simp only[sumTs,Qhl t h.1,Qee l h.2];rfl
end
open Classical in
theorem Q4q{p:Lab->Prop}{g:List Ex}(h:IsTree g)(ha:allT p (grow g)):∀l∈labs g,p l:=by
 have h1:=Q3v (fun l=>if p l then (0:Int)else 1) h
 rw[Qhl _ ha]at h1
 intro l hl
 have:=sum0 (fun x _=>by split <;> omega) h1 l hl
 split at this
 ·assumption
 ·cases this
theorem Q1u{e:List Ex}(h:check e=0):Q1n e=0/\(∀x∈e,Q0d false e x=0)/\(Q06 e).Nodup/\occT [] (grow e)=[]:=by
 unfold check body at h
 by_cases h1:Q1n e=0
 ·rw [if_neg (by simpa using h1)] at h
  by_cases h2:Q1g (Q0d false e) e=0
  ·rw[if_neg (by simpa using h2)]at h
   by_cases h3:Q4k ([]++Q06 e)=true
   ·rw[if_pos h3]at h;cases h
   ·rw[if_neg h3]at h
    have h3':=(Q1t _).1 (by simpa using h3)
    refine⟨h1,(Q1x _ _).1 h2,by simpa using h3',?_⟩
    by_cases h4:(Q3a (grow e)).all (fun n=>([]:List Int).contains n)=true
    ·have h5:Q3a (grow e)=[]:=by
      cases hf:Q3a (grow e) with
      |nil=>rfl
      |cons n l=>rw[hf]at h4;simp at h4
     unfold Q3a at h5
     cases ho:occT [] (grow e) with
     |nil=>rfl
     |cons n l=>
      have:=(Q5i n (n::l)).2 (by simp)
      rw[←ho,h5]at this
      simp at this
    ·rw[if_neg h4]at h;cases h
  ·rw[if_pos (by simpa using h2)]at h;exact absurd h h2
 ·rw[if_pos h1]at h;exact absurd h h1
theorem Qm0{e:List Ex}(h1:Q1n e=0)(h2:∀x∈e,Q0d false e x=0)(h3:(Q06 e).Nodup)(h4:occT [] (grow e)=[]):check e=0:=by
 unfold check body
 rw[if_neg (by simpa using h1),if_neg (by simpa using (Q1x _ _).2 h2),if_neg (by rw[(Q1t _).2 (by simpa using h3)];simp),if_pos]
 unfold Q3a
 rw[h4];rfl
mutual
theorem Q8u(k:Int):∀t:Tr,(((bndT t).count k:Nat):Int)=sumT (cntB k) t
 |.mk o n b ks a=>by
  simp only[bndT,sumT,cntB,List.count_append,←Qae k ks];push_cast;rfl
theorem Qae(k:Int):∀l:List Tr,(((bndTs l).count k:Nat):Int)=sumTs (cntB k) l
 |[]=>rfl
 |t::l=>by simp only[bndTs,sumTs,List.count_append,←Q8u k t,←Qae k l];push_cast;rfl
end
theorem Qcx{e:List Ex}(h:check e=0):(bndT (grow e)).Nodup:=by
 obtain⟨_,_,h3,_⟩:=Q1u h
 have t1:=Q15 h
 rw[List.nodup_iff_count]at h3 ⊢
 intro k
 have h4:=h3 k
 have h5:=Q8u k (grow e)
 rw[←Q3v _ t1]at h5
 have h6:(((Q06 e).count k:Nat):Int)=((labs e).map (cntB k)).sum:=by rw[Q2o,Q6t];rfl
 omega
theorem Qh0{e:List Ex}(h:check e=0):allT pLab (grow e):=by
 obtain⟨_,h2,_,_⟩:=Q1u h
 have t1:=Q15 h
 refine Q62 t1 fun x hx g y hy hl=>?_
 rw[Q71 hy (Q87 t1.k hx) hl]
 exact h2 x hx
abbrev nmN:Nm:=fun _=>none
theorem Qlz{e:List Ex}(h:check e=0){f:Int}(h0:0<=f)(h1:(rnT nmN f (grow e)).2.2<=1048576):check (listT [] (rnT nmN f (grow e)).1)=0:=by
 have hsh:=Q8r h
 obtain⟨p1,_,_,p4⟩:=Q1u h
 obtain⟨q1,q2,q3⟩:=(Q1d e).1 p1
 have t2:=Q1f (rnT nmN f (grow e)).1
 have hg:∀T:Tr,grow (listT [] T)=T:=Q2n
 refine Qm0 ?_ ?_ ?_ ?_
 ·refine (Q1d _).2 ⟨?_,t2,?_⟩
  ·have h5:=Q26 (rnT nmN f (grow e)).1 []
   have h6:=Q26 (grow e) []
   have h7:=Q5r h
   rw[Qat]at h5
   simp only[List.length_nil]at h5 h6
   omega
  ·rw[hg,Qc1];exact q3
 ·intro y hy
  have hp:=(Qeo (grow e) nmN f (Qh0 h) hsh (fun k v hv=>by cases hv) h0 h1).1
  have:=Q4q t2 (by rw[hg];exact hp) _ (List.mem_map_of_mem (f:=labE (listT [] (rnT nmN f (grow e)).1)) hy)
  exact this _ y (Q87 t2.k hy) rfl
 ·exact Qkl hsh nmN f
 ·rw[hg]
  exact Q9k (grow e) nmN f [] [] hsh (Qcx h) (fun k hk h=>by simp at h) (fun k hk=>by simp at hk) p4
end Go.CoreX
namespace Go.Proofs.YthboaankaaeemaaDoor
open Go Go.Abs Go.CoreX
variable {Γ:List (Nat×List AC)}
end Go.Proofs.YthboaankaaeemaaDoor
namespace Go.CoreX
mutual
theorem Qhx:∀(t:Tr)(nm:Nm)(f:Int),(rnT nm f t).2.2=f+sumT nbLab t
 |.mk o n b k a,nm,f=>by
  simp only[rnT,Qel k,Q7t,Qc5,sumT,nbLab];push_cast;omega
theorem Qel:∀(l:List Tr)(nm:Nm)(f:Int),(rnTs nm f l).2.2=f+sumTs nbLab l
 |[],_,_=>by simp[rnTs,sumTs]
 |t::l,nm,f=>by simp only[rnTs,Qel l,Qhx t,sumTs];omega
end
mutual
theorem Qhi:∀t:Tr,sumT (fun l=>(l.ops.length:Int)) t+1=cntN t
 |.mk o n b k a=>by
  have:=Qed k
  simp only[sumT,cntN,List.length_map];push_cast;omega
theorem Qed:∀l:List Tr,sumTs (fun l=>(l.ops.length:Int)) l+l.length=cntNs l
 |[]=>by simp[sumTs,cntNs]
 |t::l=>by
  have h1:=Qhi t
  have h2:=Qed l
  simp only[sumTs,cntNs,List.length_cons];push_cast;omega
end
mutual
theorem sum_le{p:Lab->Prop}{g h:Lab->Int}(hp:∀l,p l->g l<=h l):∀t:Tr,allT p t->sumT g t<=sumT h t
 |.mk o n b k a,ht=>by
  have h1:=hp _ ht.1
  have h2:=Qhh hp k ht.2
  simp only[sumT];omega
theorem Qhh{p:Lab->Prop}{g h:Lab->Int}(hp:∀l,p l->g l<=h l):∀l:List Tr,allTs p l->sumTs g l<=sumTs h l
 |[],_=>by simp[sumTs]
 |t::l,ht=>by
  have h1:=sum_le hp t ht.1
  have h2:=Qhh hp l ht.2
  simp only[sumTs];omega
end
mutual
theorem Qhj(a b:Int)(g:Lab->Int):∀t:Tr,sumT (fun l=>a+b * g l) t=a * cntN t+b * sumT g t
 |.mk o n bb k al=>by
  simp only[sumT,cntN,Qec a b g k]
  push_cast
  rw[Int.mul_add,Int.mul_add,Int.mul_one];omega
theorem Qec(a b:Int)(g:Lab->Int):∀l:List Tr,sumTs (fun l=>a+b * g l) l=a * cntNs l+b * sumTs g l
 |[]=>by simp[sumTs,cntNs]
 |t::l=>by
  simp only[sumTs,cntNs,Qhj a b g t,Qec a b g l]
  push_cast
  rw[Int.mul_add,Int.mul_add];omega
end
theorem Qft:∀(l:List Alt)(c:Int),c<=l.foldl (fun f a=>if (a.binds.length:Int) > f then (a.binds.length:Int)else f) c/\∀a∈l,(a.binds.length:Int)<=l.foldl (fun f a=>if (a.binds.length:Int) > f then (a.binds.length:Int)else f) c
 |[],c=>⟨by simp,by simp⟩
 |x::l,c=>by
  obtain⟨h1,h2⟩:=Qft l (if (x.binds.length:Int) > c then (x.binds.length:Int)else c)
  simp only[List.foldl_cons]
  refine⟨?_,fun a ha=>?_⟩
  ·split at h1 <;> split <;> omega
  ·rcases List.mem_cons.1 ha with rfl|ha
   ·split at h1 <;> split <;> omega
   ·exact h2 a ha
theorem Qgj{e:List Ex}{x:Ex}(h:Q0d false e x=0):x.binds.length<=16/\∀a∈x.alts,a.binds.length<=16:=by
 unfold Q0d at h
 split at h
 ·cases h
 ·unfold Q1o at h
  split at h
  ·cases h
  ·split at h
   ·rename_i hr;exact absurd h hr
   ·rename_i hr
    have hr':ranges x=0:=by simpa using hr
    unfold ranges at hr'
    repeat' split at hr'
    all_goals first
     |(cases hr';done)
     |skip
    all_goals
     rename_i hf _
     have hf16:fields x<=16:=by
      simp only[Bool.or_eq_true,not_or,decide_eq_true_eq]at *
      omega
     unfold fields at hf16
     obtain⟨k1,k2⟩:=Qft x.alts x.binds.length
     exact⟨by omega,fun a ha=>by have:=k2 a ha;omega⟩
theorem Q9a:∀{l:List Alt},(∀a∈l,a.binds.length<=16)->(l.map fun x=>x.binds.length).sum<=16 * l.length
 |[],_=>by simp
 |x::l,h=>by
  have h1:=h x (by simp)
  have h2:=Q9a (l:=l) fun a ha=>h a (by simp[ha])
  simp only[List.map_cons,List.sum_cons,List.length_cons];omega
theorem Ql6{e:List Ex}(h:check e=0):sumT nbLab (grow e)<=131072:=by
 have t1:=Q15 h
 obtain⟨p1,p2,_,_⟩:=Q1u h
 obtain⟨q1,_,_⟩:=(Q1d e).1 p1
 have hp:allT (fun l=>nbLab l<=16+16 * (l.ops.length:Int)) (grow e):=Q62 t1 fun x hx=>by
  obtain⟨s1,s2⟩:=Qgj (p2 x hx)
  have s3:=Qg7 (Q77 h x hx)
  have s4:x.alts.length<=x.kids.length:=by
   split at s3
   ·omega
   ·rw[s3];simp
  have s5:=Q9a s2
  have s6:(if (labE e x).op=9 then 0 else (labE e x).binds.length)<=16:=by
   split
   ·omega
   ·exact s1
  simp only[nbLab]
  have s7:(labE e x).ops.length=x.kids.length:=by simp[labE]
  have s8:(labE e x).alts=x.alts:=rfl
  rw[s7,s8]
  omega
 have h1:=sum_le (g:=nbLab) (h:=fun l=>16+16 * (l.ops.length:Int)) (fun l hl=>hl) (grow e) hp
 rw[Qhj]at h1
 have h2:=Qhi (grow e)
 have h3:=Q26 (grow e) []
 have h4:=Q5r h
 simp only[List.length_nil]at h3
 omega
structure pOk (l:Lab):Prop where
 b:l.binds.length<=1048576
 k:l.ops.length<=1048576
 a:l.alts.length<=1048576
 ab:∀x∈l.alts,x.binds.length<=1048576
 s:l.binds.length+(l.alts.flatMap (·.binds)).length<=4194304
mutual
theorem Qhv:∀(t:Tr)(nm:Nm)(f:Int),allT pOk t->allT pOk (rnT nm f t).1
 |.mk o n b k a,nm,f,h=>by
  obtain⟨h1,h2⟩:=h
  have e1:=Q78 a (ren1 o nm f b).2.1 (ren1 o nm f b).2.2
  refine⟨⟨?_,?_,?_,?_,?_⟩,Qej k _ _ h2⟩
  ·simp only[Q4t];exact h1.b
  ·simp only[Qar];exact h1.k
  ·simp only[Qi1];exact h1.a
  ·exact Qiv e1 h1.ab
  ·simp only[Q4t,Q5a e1];exact h1.s
theorem Qej:∀(l:List Tr)(nm:Nm)(f:Int),allTs pOk l->allTs pOk (rnTs nm f l).1
 |[],_,_,_=>trivial
 |t::l,nm,f,h=>⟨Qhv t nm f h.1,Qej l _ _ h.2⟩
end
-- Two lists in order, with the same members, are one list.
end Go.CoreX
namespace Go.Proofs.YthboaankaaeemaaDoor
open Go Go.Abs Go.CoreX
theorem Qks{e:List Ex}(he:okB e):∀l∈labs e,pOk l:=fun l hl=>by
 obtain⟨x,hx,rfl⟩:=List.mem_map.1 hl
 have h:=he.eo.x x hx
 exact⟨h.b,by simpa[labE]using h.k,h.a,h.ab,he.b x hx⟩
theorem Q9t{g:List Ex}(hl:g.length<=1048576)(h:∀l∈labs g,pOk l):okB g:=by
 refine⟨⟨hl,fun x hx=>?_⟩,fun x hx=>?_⟩
 ·have:=h _ (List.mem_map_of_mem (f:=labE g) hx)
  exact⟨this.b,by simpa[labE]using this.k,this.a,this.ab⟩
 ·exact (h _ (List.mem_map_of_mem (f:=labE g) hx)).s
theorem okB_rn{e:List Ex}(he:okB e)(h:check e=0)(nm:Nm)(f:Int):okB (listT [] (rnT nm f (grow e)).1):=by
 have t1:=Q15 h
 refine Q9t ?_ (Q4q (Q1f _) ?_)
 ·have h5:=Q26 (rnT nm f (grow e)).1 []
  have h6:=Q26 (grow e) []
  have h7:=Q5r h
  have h8:=he.eo.l
  rw[Qat]at h5
  simp only[List.length_nil]at h5 h6
  omega
 ·rw[Q2n]
  exact Qhv _ nm f (Q62 t1 fun x hx=>Qks he _ (List.mem_map_of_mem (f:=labE e) hx))
end Go.Proofs.YthboaankaaeemaaDoor
namespace Go.CoreX
def mapA (ν:Int->Int)(x:Alt):Alt:=⟨x.tag,x.binds.map ν⟩
mutual
def mapT (ν:Int->Int):Tr->Tr
 |.mk o n b k a=>.mk o (if o=0 then ν n else n) (if o=9 then b else b.map ν) (mapTs ν k) (a.map (mapA ν))
def mapTs (ν:Int->Int):List Tr->List Tr
 |[]=>[]
 |t::l=>mapT ν t::mapTs ν l
end
theorem Qji{nm:Nm}{f:Int}{b:List Int}{ν:Int->Int}(hn:b.Nodup)(h:∀k∈b,frN nm f b k=some (ν k)):frB f b=b.map ν:=by
 apply List.ext_getElem?
 intro j
 by_cases hj:j < b.length
 ·have hb:b[j]?=some b[j]:=List.getElem?_eq_getElem hj
  have h1:=Qav (m:=nm) (r:=frB f b) hn (Q3k f b).symm hb
  rw[←h1]
  have h2:=h b[j] (List.getElem_mem hj)
  unfold frN at h2
  rw[h2]
  simp[hj]
 ·rw[List.getElem?_eq_none (by rw[Q3k];omega),List.getElem?_eq_none (by simp;omega)]
theorem Qeq:∀{a:List Alt}{nm:Nm}{f:Int}{ν:Int->Int},(a.flatMap (·.binds)).Nodup->(∀k∈a.flatMap (·.binds),(rnTA nm f a).2.1 k=some (ν k))->(rnTA nm f a).1=a.map (mapA ν)
 |[],_,_,_,_,_=>rfl
 |x::l,nm,f,ν,hn,h=>by
  simp only[List.flatMap_cons,List.nodup_append]at hn
  have h1:frB f x.binds=x.binds.map ν:=Qji (nm:=nm) hn.1 fun k hk=>by
   have:=h k (by simp only[List.flatMap_cons,List.mem_append];exact .inl hk)
   simp only[rnTA]at this
   rw[Q3o,Q18 _ _ _ _ (fun hm=>hn.2.2 k hk k hm rfl)]at this
   exact this
  have h2:=Qeq (a:=l) (nm:=frN nm f x.binds) (f:=f+x.binds.length) (ν:=ν) hn.2.1 fun k hk=>by
   have:=h k (by simp only[List.flatMap_cons,List.mem_append];exact .inr hk)
   simpa only [rnTA]using this
  simp only[rnTA,List.map_cons,h1,h2,mapA]
mutual
theorem Qhw:∀(t:Tr)(nm:Nm)(f:Int)(sc:List Int)(ν:Int->Int),allT shLab t->(bndT t).Nodup->(∀k∈bndT t,k∉sc)->occT sc t=[]->(∀k∈sc,nm k=some (ν k))->(∀k∈bndT t,(rnT nm f t).2.1 k=some (ν k))->(rnT nm f t).1=mapT ν t
 |.mk o n b ks a,nm,f,sc,ν,hs,hn,hd,ho,hm,hf=>by
  simp only[bndT,List.nodup_append]at hn
  simp only[occT,List.append_eq_nil_iff]at ho
  have hR:rnT nm f (.mk o n b ks a)=(.mk o (if o=0 then (nm n).getD n else n) (ren1 o nm f b).1 (rnTs (nmAt o nm f b a).1 (nmAt o nm f b a).2 ks).1 (rnTA (ren1 o nm f b).2.1 (ren1 o nm f b).2.2 a).1,(rnTs (nmAt o nm f b a).1 (nmAt o nm f b a).2 ks).2):=rfl
  rw[hR]at hf ⊢
  have hown:∀k∈Q08 o b a,(nmAt o nm f b a).1 k=some (ν k):=fun k hk=>by
   have h1:=hf k (by simp only[bndT,List.mem_append];exact .inl hk)
   simp only at h1
   rw[Q3n k ks _ _ hs.2 (fun h=>hn.2.2 k hk k h rfl)]at h1
   exact h1
  have hnd:=hn.1
  unfold Q08 at hnd
  rw[List.nodup_append]at hnd
  have hks:=Qek ks (nmAt o nm f b a).1 (nmAt o nm f b a).2 0 o b a sc ν hs.2 hn.2.1
   (fun k hk => ⟨hd k (by simp only [bndT, List.mem_append]; exact .inr hk), fun h => hn.2.2 k h k hk rfl⟩) ho.2
   (fun k hk => by
    rw[Q4g hs.1,Q18 _ _ _ _ (fun h=>hd k (by simp only[bndT,List.mem_append];exact .inl h) hk)]
    exact hm k hk) hown (fun k hk=>hf k (by simp only[bndT,List.mem_append];exact .inr hk))
  have hal:(rnTA (ren1 o nm f b).2.1 (ren1 o nm f b).2.2 a).1=a.map (mapA ν):=Qeq hnd.2.1 fun k hk=>hown k (by unfold Q08;exact List.mem_append.2 (.inr hk))
  have hb:(ren1 o nm f b).1=if o=9 then b else b.map ν:=by
   unfold ren1
   by_cases e9:o=9
   ·rw[if_pos e9,if_pos e9]
   ·rw[if_neg e9,if_neg e9]
    simp only
    by_cases e:o=2∨o=4∨o=5
    ·rw[if_pos e]at hnd
     refine Qji (nm:=nm) hnd.1 fun k hk=>?_
     have h1:=hown k (by unfold Q08;rw[if_pos e];exact List.mem_append.2 (.inl hk))
     unfold nmAt ren1 at h1
     rw[if_neg e9]at h1
     simp only at h1
     rw[Q3o,Q18 _ _ _ _ (fun h=>hnd.2.2 k hk k h rfl)]at h1
     exact h1
    ·have:b=[]:=by
      have h1:=hs.1.b
      simp only at h1
      rcases h1 with h|h|h|h|h
      ·exact absurd (.inl h) e
      ·exact absurd (.inr (.inl h)) e
      ·exact absurd (.inr (.inr h)) e
      ·exact absurd h e9
      ·exact h
     subst this;rfl
  simp only[mapT,hks,hal,hb]
  congr 1
  by_cases e0:o=0
  ·rw[if_pos e0,if_pos e0]
   have h1:sc.contains n=true:=by
    cases hc:sc.contains n with
    |true=>rfl
    |false=>have:=ho.1;rw[if_pos ⟨e0,hc⟩]at this;cases this
   rw[hm n (by simpa using h1)];rfl
  ·rw[if_neg e0,if_neg e0]
theorem Qek:∀(l:List Tr)(nm:Nm)(f:Int)(i:Nat)(o:Int)(b:List Int)(a:List Alt)(sc:List Int)(ν:Int->Int),allTs shLab l->(bndTs l).Nodup->(∀k∈bndTs l,k∉sc/\k∉Q08 o b a)->occTs sc o b a i l=[]->(∀k∈sc,nm k=some (ν k)) ->
  (∀ k ∈ Q08 o b a, nm k = some (ν k)) -> (∀ k ∈ bndTs l, (rnTs nm f l).2.1 k = some (ν k)) -> (rnTs nm f l).1 = mapTs ν l
 | [], _, _, _, _, _, _, _, _, _, _, _, _, _, _, _ => rfl
 |t::l,nm,f,i,o,b,a,sc,ν,hs,hn,hd,ho,hm,hb,hf=>by
  simp only[bndTs,List.nodup_append]at hn
  simp only[occTs,List.append_eq_nil_iff]at ho
  have ht:=Qhw t nm f (Q1c o b a i++sc) ν hs.1 hn.1
   (fun k hk h => by
    have:=hd k (by simp only[bndTs,List.mem_append];exact .inl hk)
    rcases List.mem_append.1 h with h|h
    ·exact this.2 (Q4o h)
    ·exact this.1 h) ho.1
   (fun k hk => by
    rcases List.mem_append.1 hk with h|h
    ·exact hb k (Q4o h)
    ·exact hm k h)
   (fun k hk => by
    have h1:=hf k (by simp only[bndTs,List.mem_append];exact .inl hk)
    simp only[rnTs]at h1
    rw[Q3n k l _ _ hs.2 (fun h=>hn.2.2 k hk k h rfl)]at h1
    exact h1)
  have hkeep:∀k,k∈sc∨k∈Q08 o b a->(rnT nm f t).2.1 k=nm k:=fun k hk=>Qas k t nm f hs.1 fun h=>by
   have:=hd k (by simp only[bndTs,List.mem_append];exact .inl h)
   rcases hk with hk|hk
   ·exact this.1 hk
   ·exact this.2 hk
  have hl:=Qek l (rnT nm f t).2.1 (rnT nm f t).2.2 (i+1) o b a sc ν hs.2 hn.2.1 (fun k hk=>hd k (by simp only[bndTs,List.mem_append];exact .inr hk)) ho.2
   (fun k hk=>by rw[hkeep k (.inl hk)];exact hm k hk) (fun k hk=>by rw[hkeep k (.inr hk)];exact hb k hk)
   (fun k hk=>hf k (by simp only[bndTs,List.mem_append];exact .inr hk))
  simp only[rnTs,mapTs,ht,hl]
end
mutual
theorem Qhy(k:Int):∀(t:Tr)(nm:Nm)(f:Int),allT shLab t->k∈bndT t->∃v,(rnT nm f t).2.1 k=some v
 |.mk o n b ks a,nm,f,hs,hk=>by
  simp only[bndT,List.mem_append]at hk
  show ∃v,(rnTs (nmAt o nm f b a).1 (nmAt o nm f b a).2 ks).2.1 k=some v
  by_cases h2:k∈bndTs ks
  ·exact Qem k ks _ _ hs.2 h2
  ·rw[Q3n k ks _ _ hs.2 h2,Q4g hs.1]
   have h1:=hk.resolve_right h2
   have key:∀(l r:List Int) (m:Nm),l.length=r.length->k∈l->∃v,putsN m l r k=some v:=by
    intro l
    induction l with
    |nil=>intro r m _ h;simp at h
    |cons x l ih=>
     intro r m hl h
     cases r with
     |nil=>simp at hl
     |cons y r=>
      simp only[putsN]
      by_cases h3:k∈l
      ·exact ih r _ (by simpa using hl) h3
      ·rw[Q18 _ _ _ _ h3]
       have:k=x:=by simpa[h3]using h
       exact⟨y,by simp[setN,this]⟩
   refine key _ _ _ ?_ h1
   have e1:=Q78 a (ren1 o nm f b).2.1 (ren1 o nm f b).2.2
   unfold Q08
   rw[List.length_append,List.length_append,Q5a e1]
   congr 1
   split
   ·exact (Q4t _ _ _ _).symm
   ·rfl
theorem Qem(k:Int):∀(l:List Tr)(nm:Nm)(f:Int),allTs shLab l->k∈bndTs l->∃v,(rnTs nm f l).2.1 k=some v
 |[],_,_,_,hk=>by simp[bndTs]at hk
 |t::l,nm,f,hs,hk=>by
  simp only[bndTs,List.mem_append]at hk
  simp only[rnTs]
  by_cases h2:k∈bndTs l
  ·exact Qem k l _ _ hs.2 h2
  ·rw[Q3n k l _ _ hs.2 h2]
   exact Qhy k t nm f hs.1 (hk.resolve_right h2)
end
theorem Qe1(ν:Int->Int)(o:Int)(b:List Int)(a:List Alt):Q08 o (if o=9 then b else b.map ν) (a.map (mapA ν))=(Q08 o b a).map ν:=by
 unfold Q08
 rw[List.map_append]
 congr 1
 ·by_cases e:o=2∨o=4∨o=5
  ·rw[if_pos e,if_pos e,if_neg (by omega)]
  ·rw[if_neg e,if_neg e];rfl
 ·rw[List.flatMap_map,List.map_flatMap];rfl
mutual
theorem Qjq(ν:Int->Int):∀t:Tr,bndT (mapT ν t)=(bndT t).map ν
 |.mk o n b k a=>by simp only[mapT,bndT,Qe1,Qg1 ν k,List.map_append]
theorem Qg1(ν:Int->Int):∀l:List Tr,bndTs (mapTs ν l)=(bndTs l).map ν
 |[]=>rfl
 |t::l=>by simp only[mapTs,bndTs,Qjq ν t,Qg1 ν l,List.map_append]
end
theorem rn_mapT{e:List Ex}(h:check e=0)(f:Int):∃ν:Int->Int,(rnT nmN f (grow e)).1=mapT ν (grow e)/\((bndT (grow e)).map ν).Nodup:=by
 have hsh:=Q8r h
 obtain⟨_,_,_,p4⟩:=Q1u h
 have hm:=Qhw (grow e) nmN f [] (fun k=>((rnT nmN f (grow e)).2.1 k).getD 0) hsh (Qcx h) (fun k _ hk=>by simp at hk) p4 (fun k hk=>by simp at hk) (fun k hk=>by
  obtain⟨v,hv⟩:=Qhy k (grow e) nmN f hsh hk
  rw[hv];rfl)
 refine⟨_,hm,?_⟩
 rw[←Qjq,←hm,List.nodup_iff_count]
 intro k
 have h1:=Q8u k (rnT nmN f (grow e)).1
 rw[Q7s k _ _ _ hsh]at h1
 unfold ind at h1
 split at h1 <;> omega
end Go.CoreX
namespace Go.Proofs.YthboaankaaeemaaDoor
open Go Go.Abs Go.CoreX
theorem Q6w{H:Type}:∀l:List (DataW H),Rows.uptoBulkAll l=Q3b Rows.uptoBulk l
 |[]=>rfl
 |d::l=>by simp only[Rows.uptoBulkAll,Q3b,List.map_cons,List.sum_cons]at *;rw[Q6w l];rfl
theorem Qg0{H:Type}(l:List (DataW H)):Q3b Rows.uptoBulk l+1<=Rows.uptoBulk (.agg l):=by
 simp only[Rows.uptoBulk,Q6w];omega
theorem Qh5{H:Type}(l r:List (DataW H)):Q3b Rows.uptoBulk l+1<=Rows.uptoBulk (.slice l r):=by
 simp only[Rows.uptoBulk,Q6w];omega
theorem Qm4{H:Type}:1<=Rows.uptoBulk (DataW.nil:DataW H):=by simp[Rows.uptoBulk]
section
variable {H:Type}{enc:TypeId×Value->H}{w:World}
abbrev I64:={i:Int // IntKind.i64.min<=i/\i<=IntKind.i64.max}
theorem Q4f(n:Nat):Opens enc Tryd.prog w Rows.uptoBulk 3 n (fun i:I64=>[int i.1]) (fun _=>1):=by
 intro cs x h
 obtain⟨i,rfl,rfl,hw⟩:=DataW.trod_int Tryd.underlying3 h
 refine⟨⟨i,?_⟩,⟨_,_,rfl,⟨rfl,rfl⟩,rfl⟩,by simp[Rows.uptoBulk]⟩
 simpa[Lit.wf]using hw
theorem Q57{t e:TypeId}{s:Nat}(ht:Tryd.prog.underlying t=some (.slice e))(hs:Tryd.prog.cellsOf e=s)(h0:0 < s){α:Type}{c:α->List AC}{wt:α->Nat}(n:Nat)(he:∀m,m < n->Opens enc Tryd.prog w Rows.uptoBulk e m c wt):
  Opens enc Tryd.prog w Rows.uptoBulk t n (fun l:List α=>[.sl s (l.map c)]) (fun l=>wtAll wt l+1):=by
 cases n with
 |zero=>exact Opens.zero
 |succ n=>exact Opens.slice Qh5 Qm4 ht hs h0 (he n (by omega))
theorem wt_one{α:Type}(l:List α):wtAll (fun _=>1) l=l.length:=by
 unfold wtAll
 induction l with
 |nil=>rfl
 |cons a l ih=>simp only[List.map_cons,List.sum_cons,List.length_cons,ih];omega
theorem Q6d(n:Nat):Opens enc Tryd.prog w Rows.uptoBulk 30 n (fun l:List Int=>[.sl 1 (l.map cI)]) (fun l=>l.length+1):=by
 refine Opens.as (Q57 Tryd.underlying30 (s:=1) (by kernel_rfl) (by omega) n (fun m _=>Q4f m)) fun l=>⟨l.map (·.1),?_,?_⟩
 ·simp only[List.map_map];rfl
 ·rw[wt_one];simp
def bAlt (a:Alt):Nat:=a.binds.length+3
def bAlts (l:List Alt):Nat:=(l.map bAlt).sum
def bEx (x:Ex):Nat:=x.binds.length+x.kids.length+bAlts x.alts+6
def bExs (l:List Ex):Nat:=(l.map bEx).sum
theorem Qkq(n:Nat):Opens enc Tryd.prog w Rows.uptoBulk 135 n cAlt bAlt:=by
 cases n with
 |zero=>exact Opens.zero
 |succ n=>
  refine Opens.as (Opens.struct Qg0 Tryd.underlying135 (.cons rfl (by kernel_rfl) (Q4f n) (fun _=>rfl) (.cons rfl (by kernel_rfl) (Q6d n) (fun _=>rfl) (.nil _))) (fun _=>(show (2:Nat)=_ by kernel_rfl))) ?_
  rintro⟨i,l,_⟩
  exact⟨⟨i.1,l⟩,rfl,by show l.length+3<=1+(l.length+1+0)+1;omega⟩
theorem opensEx(n:Nat):Opens enc Tryd.prog w Rows.uptoBulk 69 n cEx bEx:=by
 cases n with
 |zero=>exact Opens.zero
 |succ n=>
  have ha:=Q57 (enc:=enc) (w:=w) (t:=67) Tryd.underlying67 (s:=2) (by kernel_rfl) (by omega) n (fun m _=>Qkq m)
  refine Opens.as (Opens.struct Qg0 Tryd.underlying69 (.cons rfl (by kernel_rfl) (Q4f n) (fun _=>rfl) (.cons rfl (by kernel_rfl) (Q4f n) (fun _=>rfl) (.cons rfl (by kernel_rfl) (Q6d n) (fun _=>rfl) (.cons rfl (by kernel_rfl) (Q6d n) (fun _=>rfl) (.cons rfl (by kernel_rfl) ha (fun _=>rfl) (.nil _)))))) (fun _=>(show (5:Nat)=_ by kernel_rfl))) ?_
  rintro⟨i,j,b,k,l,_⟩
  refine⟨⟨i.1,j.1,b,k,l⟩,rfl,?_⟩
  show b.length+k.length+bAlts l+6<=1+(1+(b.length+1+(k.length+1+(wtAll bAlt l+1+0))))+1
  have:wtAll bAlt l=bAlts l:=rfl
  omega
theorem Qkp(n:Nat):Opens enc Tryd.prog w Rows.uptoBulk 22 n (fun l:List Ex=>[.sl 5 (l.map cEx)]) (fun l=>bExs l+1):=
 Q57 Tryd.underlying22 (s:=5) (by kernel_rfl) (by omega) n (fun m _=>opensEx m)
theorem Qkm{t e:TypeId}{base:Nat}{r:Reach}{W:World}{v:Value}{C:Ctx}{c:AC}(ht:Tryd.prog.underlying t=some (.slice e))(h:Value.okWide Tryd.prog W r base t v)(hr:RV W C [c] v.cells.toList):RF W C (.one c) v:=by
 obtain⟨a,len,cap,rfl⟩:=WideShapes.okWide_slice ht h
 obtain⟨u,us,he,h1,h2⟩:=hr
 simp[Value.cells]at he
 obtain⟨rfl,rfl⟩:=he
 exact h1
end
theorem Qd6{α:Type}{f:α->Nat}:∀{l:List α}{a:α},a∈l->f a<=(l.map f).sum
 |b::l,a,h=>by
  simp only[List.map_cons,List.sum_cons]
  rcases List.mem_cons.1 h with rfl|h
  ·omega
  ·have:=Qd6 (f:=f) h;omega
theorem Qd7{α:Type}{f:α->Nat}(hf:∀a,1<=f a):∀l:List α,l.length<=(l.map f).sum
 |[]=>by simp
 |b::l=>by
  have h1:=hf b
  have h2:=Qd7 hf l
  simp only[List.map_cons,List.sum_cons,List.length_cons];omega
theorem Qaf:∀l:List Alt,(l.flatMap (·.binds)).length<=bAlts l
 |[]=>by simp[bAlts]
 |a::l=>by
  have:=Qaf l
  simp only[bAlts,bAlt,List.flatMap_cons,List.length_append,List.map_cons,List.sum_cons]at *
  omega
theorem okB_of{e:List Ex}(h:bExs e<=1048576):okB e:=by
 have h1:=Qd7 (f:=bEx) (fun x=>by simp only[bEx];omega) e
 have hx:∀x∈e,bEx x<=1048576:=fun x hx=>by
  have h2:bEx x<=bExs e:=Qd6 hx
  omega
 have h1':e.length<=bExs e:=h1
 refine⟨⟨by omega,fun x hx1=>?_⟩,fun x hx1=>?_⟩
 ·have h2:=hx x hx1
  simp only[bEx]at h2
  have h3:=Qd7 (f:=bAlt) (fun a=>by simp only[bAlt];omega) x.alts
  have h3':x.alts.length<=bAlts x.alts:=h3
  refine⟨by omega,by omega,by omega,fun a ha=>?_⟩
  have h4:bAlt a<=bAlts x.alts:=Qd6 ha
  simp only[bAlt]at h4
  omega
 ·have h2:=hx x hx1
  simp only[bEx]at h2
  have h3:=Qaf x.alts
  omega
end Go.Proofs.YthboaankaaeemaaDoor
namespace Go.CoreX
end Go.CoreX
namespace Go.Proofs.YthboaankaaeemaaDoor
open Go Go.Abs Go.CoreX
variable {Γ:List (Nat×List AC)}
structure UpdL (ou:Outer)(L:List (Nat×AObj))(ou':Outer)(L':List (Nat×AObj)):Prop where
 own:Owns ou' L'
 nd:(keys L').Nodup
 new:∀k∈keys L',k∈keys L∨ou k=none
 old:∀k,k∉keys L->ou k≠none->ou' k=ou k
 ok:OuOk ou'
theorem UpdL.trans{ou ou1 ou2:Outer}{L L1 L2:List (Nat×AObj)}(h:UpdL ou L ou1 L1)(k:UpdL ou1 L1 ou2 L2):UpdL ou L ou2 L2 where
 own:=k.own
 nd:=k.nd
 new:=fun j hj=>by
  rcases k.new j hj with h1|h1
  ·exact h.new j h1
  ·by_cases h2:j∈keys L
   ·exact .inl h2
   ·refine .inr (Decidable.byContradiction fun h3=>?_)
    rw[h.old j h2 h3]at h1
    exact h3 h1
 old:=fun j hj hn=>by
  have h1:=h.old j hj hn
  have h2:j∉keys L1:=fun h3=>(h.new j h3).elim hj hn
  rw[k.old j h2 (by rw[h1];exact hn),h1]
 ok:=k.ok
end Go.Proofs.YthboaankaaeemaaDoor
namespace Go.CoreX
mutual
theorem Qkt:∀(t:Tr)(sc sc':List Int),(∀n,n∈sc->n∈sc')->occT sc t=[]->occT sc' t=[]
 |.mk o n b ks a,sc,sc',hs,h=>by
  simp only[occT,List.append_eq_nil_iff]at h ⊢
  refine⟨?_,Qcb ks sc sc' o b a 0 hs h.2⟩
  have h1:=h.1
  split at h1
  ·cases h1
  ·rename_i h2
   rw[if_neg]
   rintro⟨h3,h4⟩
   refine h2 ⟨h3,?_⟩
   simp only[List.contains_eq_mem,decide_eq_false_iff_not]at h4 ⊢
   exact fun h5=>h4 (hs n h5)
theorem Qcb:∀(l:List Tr)(sc sc':List Int)(o:Int)(b:List Int)(a:List Alt)(i:Nat),(∀n,n∈sc->n∈sc')->occTs sc o b a i l=[]->occTs sc' o b a i l=[]
 |[],_,_,_,_,_,_,_,_=>rfl
 |t::l,sc,sc',o,b,a,i,hs,h=>by
  simp only[occTs,List.append_eq_nil_iff]at h ⊢
  exact⟨Qkt t _ _ (fun n hn=>by rcases List.mem_append.1 hn with h|h;exact List.mem_append_left _ h;exact List.mem_append_right _ (hs n h)) h.1,Qcb l sc sc' o b a (i+1) hs h.2⟩
end
def InjOn (ν:Int->Int)(B:List Int):Prop:=∀x∈B,∀y∈B,ν x=ν y->x=y
theorem Qfi:∀{B:List Int}{ν:Int->Int},(B.map ν).Nodup->InjOn ν B
 |[],_,_=>fun x hx=>by simp at hx
 |b::B,ν,h=>fun x hx y hy e=>by
  simp only[List.map_cons,List.nodup_cons]at h
  rcases List.mem_cons.1 hx with h1|h1
  ·rcases List.mem_cons.1 hy with h2|h2
   ·rw[h1,h2]
   ·exact absurd (by rw[←h1,e];exact List.mem_map_of_mem h2) h.1
  ·rcases List.mem_cons.1 hy with h2|h2
   ·exact absurd (by rw[←h2,←e];exact List.mem_map_of_mem h1) h.1
   ·exact Qfi h.2 x h1 y h2 e
mutual
theorem Qhf(B:List Int):∀(t:Tr)(sc:List Int),occT sc t=[]->(∀k∈sc,k∈B)->(∀k∈bndT t,k∈B)->allT (fun l=>l.op=0->l.n∈B) t
 |.mk o n b ks a,sc,h,hs,hb=>by
  simp only[occT,List.append_eq_nil_iff]at h
  refine⟨fun e0=>?_,Qeb B ks sc o b a 0 h.2 hs (fun k hk=>hb k (by simp only[bndT,List.mem_append];exact .inl hk)) fun k hk=>hb k (by simp only[bndT,List.mem_append];exact .inr hk)⟩
  simp only at e0 ⊢
  cases hc:sc.contains n with
  |true=>exact hs n (by simpa using hc)
  |false=>have:=h.1;rw[if_pos ⟨e0,hc⟩]at this;cases this
theorem Qeb(B:List Int):∀(l:List Tr)(sc:List Int)(o:Int)(b:List Int)(a:List Alt)(i:Nat),occTs sc o b a i l=[]->(∀k∈sc,k∈B)->(∀k∈Q08 o b a,k∈B)->(∀k∈bndTs l,k∈B)->allTs (fun l=>l.op=0->l.n∈B) l
 |[],_,_,_,_,_,_,_,_,_=>trivial
 |t::l,sc,o,b,a,i,h,hs,ho,hb=>by
  simp only[occTs,List.append_eq_nil_iff]at h
  exact⟨Qhf B t _ h.1 (fun k hk=>(List.mem_append.1 hk).elim (fun h=>ho k (Q4o h)) (hs k)) fun k hk=>hb k (by simp only[bndTs,List.mem_append];exact .inl hk),
   Qeb B l sc o b a (i+1) h.2 hs ho fun k hk=>hb k (by simp only[bndTs,List.mem_append];exact .inr hk)⟩
end
end Go.CoreX
namespace Go.CoreX
end Go.CoreX
namespace Go.CoreX
def W1:Tr:=.mk 1 1 [] [] []
end Go.CoreX
namespace Go.CoreX
end Go.CoreX
namespace Go.CoreX
end Go.CoreX
namespace Go.CoreX
inductive LFt where
 |mk (id:Nat) (op n:Int) (kb:Nb) (kids:List LFt)
instance:Inhabited LFt:=⟨.mk 0 0 0 none []⟩
def LFt.id:LFt->Nat|.mk i _ _ _ _=>i
def LFt.n:LFt->Int|.mk _ _ n _ _=>n
def LFt.kids:LFt->List LFt|.mk _ _ _ _ k=>k
mutual
def erFt:LFt->Tr
 |.mk _ o n _ k=>.mk o n [] (erFts k) []
def erFts:List LFt->List Tr
 |[]=>[]
 |t::ts=>erFt t::erFts ts
end
theorem Qfv:∀l:List LFt,erFts l=l.map erFt
 |[]=>rfl
 |t::l=>by simp[erFts,Qfv l]
mutual
def okFt:LFt->Prop
 |.mk _ _ _ kb k=>(kb=none->k=[])/\(∀a c,kb=some (a,c)->k.length<=c)/\k.length<=1048576/\okFts k
def okFts:List LFt->Prop
 |[]=>True
 |t::l=>okFt t/\okFts l
end
theorem Qf1:∀{l:List LFt},(∀t∈l,okFt t)->okFts l
 |[],_=>trivial
 |t::l,h=>⟨h t (by simp),Qf1 fun u hu=>h u (by simp[hu])⟩
end Go.CoreX
namespace Go.Proofs.YthboaankaaeemaaDoor
open Go Go.Abs Go.CoreX
variable {Γ:List (Nat×List AC)}
def kFt (l:List LFt):List (List AC):=l.map fun t=>[.ptr (.o t.id) 0]
def kcFt:Nb->List (List AC)->AC
 |none,l=>.sl 1 l
 |some (a,cap),l=>.arr (.o a) 1 0 l.length cap
def koFt:Nb->List (List AC)->List (Nat×AObj)
 |none,_=>[]
 |some (a,cap),l=>[(a,.cells (vec 1 l cap))]
def nFt (o n:Int)(kb:Nb)(l:List (List AC)):AObj:=.cells [int o,int n,.sl 1 [],kcFt kb l,.sl 2 []]
mutual
def obFt:LFt->List (Nat×AObj)
 |.mk i o n kb k=>(i,nFt o n kb (kFt k))::(koFt kb (kFt k)++obFts k)
def obFts:List LFt->List (Nat×AObj)
 |[]=>[]
 |t::ts=>obFt t++obFts ts
end
theorem Qdl(p:Abs.Id->Prop)(hp:∀k,p (.o k)):∀l:List LFt,idsS p (kFt l)
 |[]=>trivial
 |t::l=>⟨⟨hp _,trivial⟩,Qdl p hp l⟩
@[simp] theorem Qj7 (l:List LFt):idsS isO (kFt l):=Qdl _ (fun _=>trivial) l
@[simp] theorem ids_kFt_l (k:Nat) (l:List LFt):idsS (inL k) (kFt l):=Qdl _ (fun _=>trivial) l
@[simp] theorem ren_kFt (ρ:Nat->Nat) (l:List LFt):renS ρ (kFt l)=kFt l:=Q1s ρ _ (Qj7 l)
def ownFt:LFt->List (Nat×AObj)
 |.mk i o n kb k=>koFt kb (kFt k)++[(i,nFt o n kb (kFt k))]
theorem obFt_mem:∀(t:LFt)(p:Nat×AObj),p∈obFt t↔p∈ownFt t∨p∈obFts t.kids
 |.mk i o n kb k,p=>by
  simp only[obFt,ownFt,LFt.kids,List.mem_cons,List.mem_append,List.not_mem_nil,or_false]
  constructor
  ·rintro (h|h|h) <;> simp[h]
  ·rintro ((h|h)|h) <;> simp[h]
structure LinkF (e:List Ex)(lts:List LFt):Prop where
 len:lts.length=e.length
 at_:∀(i:Nat) (x:Ex),e[i]?=some x->∃id kb,lts[i]?=some (.mk id x.op x.n kb (x.kids.map fun q=>lts.getD q.toNat default))/\(kb=none->x.kids=[])/\∀a c,kb=some (a,c)->x.kids.length<=c
theorem LinkF.nil:LinkF [] []:=⟨rfl,fun i x h=>by simp at h⟩
def noB (e:List Ex):Prop:=∀x∈e,x.binds=[]/\x.alts=[]
section
variable {e:List Ex}{lts:List LFt}
theorem LinkF.getD(h:LinkF e lts){i:Nat}{t:LFt}(ht:lts[i]?=some t):lts.getD i default=t:=by rw[List.getD_eq_getElem?_getD,ht];rfl
theorem LinkF.er(h:LinkF e lts)(hk:Q0v e)(hb:noB e):∀(n i:Nat)(t:LFt),i < n->lts[i]?=some t->erFt t=Q45 e i
 |0,i,t,hi,_=>by omega
 |n+1,i,t,hi,ht=>by
  have hil:i < e.length:=by rw[←h.len];exact (List.getElem?_eq_some_iff.1 ht).1
  obtain⟨x,hx⟩:=Q00 hil
  obtain⟨id,kb,h1,_,_⟩:=h.at_ i x hx
  obtain⟨b1,b2⟩:=hb x (List.mem_of_getElem? hx)
  rw[ht]at h1
  cases h1
  rw[Q3u hk hx,b1,b2]
  simp only[erFt,Qfv,List.map_map]
  congr 1
  refine List.map_congr_left fun q hq=>?_
  have hq':=hk i x hx q hq
  obtain⟨t',ht'⟩:=Q00 (l:=lts) (i:=q.toNat) (by rw[h.len];omega)
  simp only[Function.comp,h.getD ht']
  exact h.er hk hb n q.toNat t' (by omega) ht'
theorem LinkF.ok(h:LinkF e lts)(hk:Q0v e)(he:okE e):∀(n i:Nat)(t:LFt),i < n->lts[i]?=some t->okFt t
 |0,i,t,hi,_=>by omega
 |n+1,i,t,hi,ht=>by
  have hil:i < e.length:=by rw[←h.len];exact (List.getElem?_eq_some_iff.1 ht).1
  obtain⟨x,hx⟩:=Q00 hil
  obtain⟨id,kb,h1,h2,h3⟩:=h.at_ i x hx
  rw[ht]at h1
  cases h1
  refine⟨fun hn=>by rw[h2 hn];rfl,fun a c hc=>by rw[List.length_map];exact h3 a c hc,by rw[List.length_map];exact (he.x x (List.mem_of_getElem? hx)).k,Qf1 fun u hu=>?_⟩
  obtain⟨q,hq,rfl⟩:=List.mem_map.1 hu
  have hq':=hk i x hx q hq
  obtain⟨t',ht'⟩:=Q00 (l:=lts) (i:=q.toNat) (by rw[h.len];omega)
  rw[h.getD ht']
  exact h.ok hk he n q.toNat t' (by omega) ht'
end
def Qil (ts:List LFt)(n:Nat):List AC:=ts.map (fun t=>.ptr (.o t.id) 0)++List.replicate (n - ts.length) (.lit (.pointer none))
theorem Qa1(p:Abs.Id->Prop)(hp:∀k,p (.o k))(ts:List LFt)(n:Nat):idsL p (Qil ts n):=by
 refine Q5v ?_ (Qfk p _ _)
 induction ts with
 |nil=>trivial
 |cons t ts ih=>exact⟨hp _,ih⟩
@[simp] theorem ids_nodesF_l (k:Nat) (ts:List LFt) (n:Nat):idsL (inL k) (Qil ts n):=Qa1 _ (fun _=>trivial) ts n
@[simp] theorem ids_nodesF_o (ts:List LFt) (n:Nat):idsL isO (Qil ts n):=Qa1 _ (fun _=>trivial) ts n
theorem NewO.pair{ou:Outer}{k:Nat}{v w:AObj}(hk:∀m,k<=m->ou m=none)(hou:OuOk ou)(hv:v.ids isO)(hw:w.ids isO):NewO ou (ouAdd ou k [w,v]) [(k+1,v),(k,w)]:=by
 refine⟨fun p hp=>?_,fun j hj=>?_,fun m hm=>?_,Q4v hou fun q hq=>?_,by simp[keys]⟩
 ·simp only[List.mem_cons,List.not_mem_nil,or_false]at hp
  rcases hp with rfl|rfl
  ·exact Q0q 1
  ·exact Q0q 0
 ·simp[keys]at hj
  rcases hj with rfl|rfl <;> exact hk _ (by omega)
 ·simp[keys]at hm
  rcases Nat.lt_or_ge m k with h1|h1
  ·exact Q1b h1
  ·obtain⟨p,rfl⟩:∃p,m=k+p:=⟨m - k,by omega⟩
   rw[Q0q,hk _ h1]
   match p,hm with
   |0,hm=>simp at hm
   |1,hm=>simp at hm
   |p+2,hm=>simp
 ·simp only[List.mem_cons,List.not_mem_nil,or_false]at hq
  rcases hq with rfl|rfl
  ·exact hw
  ·exact hv
end Go.Proofs.YthboaankaaeemaaDoor
namespace Go.CoreX
end Go.CoreX
namespace Go.Proofs.YthboaankaaeemaaDoor
open Go Go.Abs Go.CoreX
variable {Γ:List (Nat×List AC)}
end Go.Proofs.YthboaankaaeemaaDoor
namespace Go.CoreX
end Go.CoreX
namespace Go.Proofs.YthboaankaaeemaaDoor
open Go Go.Abs Go.CoreX
variable {Γ:List (Nat×List AC)}
theorem UpdL.one{ou:Outer}{i:Nat}{R:List (Nat×AObj)}{c c':AObj}(hO:Owns ou ((i,c)::R))(hn:(keys ((i,c)::R)).Nodup)(hou:OuOk ou)(hc:c'.ids isO):UpdL ou ((i,c)::R) (updO ou i c') ((i,c')::R):=by
 simp only[keys,List.map_cons,List.nodup_cons]at hn
 refine⟨fun p hp=>?_,by simpa[keys]using hn,fun k hk=>.inl (by simpa[keys]using hk),fun k hk hne=>?_,Q17 hou hc⟩
 ·rcases List.mem_cons.1 hp with rfl|hp
  ·exact Q04 _ _ _
  ·rw[Q05 _ (fun e=>hn.1 (by rw[e];exact List.mem_map_of_mem hp))]
   exact hO p (List.mem_cons_of_mem _ hp)
 ·simp only[keys,List.map_cons,List.mem_cons,not_or]at hk
  exact Q05 _ (Ne.symm hk.1) _
theorem Qbt{xs ys:List Int}{i:Nat}{x y:Int}(hx:xs[i]?=some x)(hy:ys[i]?=some y)(h:xs.take i=ys.take i):xs.take (i+1)=ys.take (i+1)↔x=y:=by
 rw[Q0o hx,Q0o hy,h]
 constructor
 ·intro e;exact (List.append_inj' e rfl).2 |> fun e=>by simpa using e
 ·intro e;rw[e]
theorem Qd2(hΓ:∀g cs,(g,cs)∈Γ->idsL isO cs)(xs ys:List Int)(hl:xs.length<=1048576):APure Tryd.prog Γ 21 [.one (.sl 1 (xs.map cI)),.one (.sl 1 (ys.map cI))] (.one (.lit (.bool (decide (xs=ys))))):=by
 intro ou
 refine AFn.walk 26 tabOk Tryd.func21 rfl (by kernel_rfl) rfl rfl fun hou=>?_
 refine zA ?_
 refine ACode.cond rfl (fun hb=>?_) (fun hb=>?_)
 ·have hne:xs≠ys:=fun e=>by subst e;simp at hb
  refine zA ?_
  exact APure.fin rfl (WkF.ofEq (by rw[decide_eq_false hne])) (by simp) hou rfl
 have hle:xs.length=ys.length:=by simp at hb;omega
 refine zA ?_
 refine ACode.loopR hΓ (α:=Nat) (fun i=>[(13,.one (int i)),(12,.one (int (xs.map cI).length)),(1,.one (.sl 1 (ys.map cI))),(0,.one (.sl 1 (xs.map cI)))]) (fun i=>⟨0,[],ou⟩) (fun m i=>(i<=xs.length/\xs.take i=ys.take i)/\m=xs.length - i) (a0:=0) (ρ:=_root_.id) ⟨⟨by omega,rfl⟩,rfl⟩ (LessR.of rfl zFS (by simp) zLO rfl rfl hou) fun m i hi=>?_
 obtain⟨⟨hil,heq⟩,rfl⟩:=hi
 refine zA ?_
 refine ACode.cond rfl (fun hb=>?_) (fun hb=>?_)
 ·have hlt:i < xs.length:=by simpa using hb
  obtain⟨x,hx⟩:=Q00 hlt
  obtain⟨y,hy⟩:=Q00 (l:=ys) (i:=i) (by omega)
  refine zA ?_
  refine ACode.drawX tabOk 8 [(2,.one (.box [int x])),(6,.one (.box [int y]))] follows (by kernel_rfl) rfl rfl rfl rfl ?_ ?_
  ·exact⟨⟨_,rfl,zIA rfl rfl rfl (by omega) (Q0c hx)⟩,⟨_,rfl,zIA rfl rfl rfl (by omega) (Q0c hy)⟩,trivial⟩
  refine zA ?_
  refine ACode.cond rfl (fun hb=>?_) (fun hb=>?_)
  ·have hxy:x≠y:=by simpa using hb
   have hne:xs≠ys:=fun e=>by subst e;rw[hx]at hy;exact hxy (Option.some.inj hy)
   refine zA ?_
   exact APure.fin rfl (WkF.ofEq (by rw[decide_eq_false hne])) (by simp) hou rfl
  ·have hxy:x=y:=by simpa using hb
   refine zM ?_
   exact cInv ⟨xs.length - (i+1),i+1,_root_.id,by omega,⟨⟨by omega,(Qbt hx hy heq).2 hxy⟩,rfl⟩,LessR.of rfl zFS (by simp) zLO rfl rfl hou⟩
 ·have he:i=xs.length:=by simp at hb;omega
  have hee:xs=ys:=by
   subst he
   rwa [List.take_length,hle,List.take_length]at heq
  refine zA ?_
  exact APure.fin rfl (WkF.ofEq (by rw[decide_eq_true hee])) (by simp) hou rfl
end Go.Proofs.YthboaankaaeemaaDoor
namespace Go.CoreX
end Go.CoreX
namespace Go.Proofs.YthboaankaaeemaaDoor
open Go Go.Abs Go.CoreX
variable {Γ:List (Nat×List AC)}
def cRu (H:Nat)(Lx Rx:List Ex):List AC:=[int (H:Nat),.sl 5 (Lx.map cEx),.sl 5 (Rx.map cEx)]
@[simp] theorem ids_cRu (p:Abs.Id->Prop) (H:Nat) (Lx Rx:List Ex):idsL p (cRu H Lx Rx):=by simp[cRu]
end Go.Proofs.YthboaankaaeemaaDoor
namespace Go.CoreX
end Go.CoreX
namespace Go.Proofs.YthboaankaaeemaaDoor
open Go Go.Abs Go.CoreX
variable {Γ:List (Nat×List AC)}
end Go.Proofs.YthboaankaaeemaaDoor
namespace Go.CoreX
mutual
theorem Qdf:∀t:Tr,okT t->allT pOk t
 |.mk o n b k a,h=>⟨⟨h.1,by simpa using h.2.1,h.2.2.1,h.2.2.2.1.1,h.2.2.2.1.2⟩,Qf0 k h.2.2.2.2⟩
theorem Qf0:∀l:List Tr,okTs l->allTs pOk l
 |[],_=>trivial
 |t::l,h=>⟨Qdf t h.1,Qf0 l h.2⟩
end
end Go.CoreX
namespace Go.Proofs.YthboaankaaeemaaDoor
open Go Go.Abs Go.CoreX
theorem Qf2{T:Tr}(h:allT pOk T)(hl:cntN T<=1048576):okB (listT [] T):=Q9t (by have:=Q26 T [];simp at this;omega) (Q4q (Q1f _) (by rw[Q2n];exact h))
end Go.Proofs.YthboaankaaeemaaDoor
namespace Go.CoreX
structure Cf where
 i:Nat
 o:Int
 n:Int
 nb:Nb
 b:List Int
 l:List LTr
 r:List LTr
 a:List LAlt
end Go.CoreX
namespace Go.Proofs.YthboaankaaeemaaDoor
open Go Go.Abs Go.CoreX
abbrev RuL:=List (Nat×List Ex×List Ex)
def cRL (RL:RuL):List (List AC):=RL.map fun r=>cRu r.1 r.2.1 r.2.2
@[simp] theorem ids_cRL (p:Abs.Id->Prop) (RL:RuL):idsS p (cRL RL):=Q1w (f:=fun r:Nat×List Ex×List Ex=>cRu r.1 r.2.1 r.2.2) (fun r=>by simp) RL
end Go.Proofs.YthboaankaaeemaaDoor
namespace Go.CoreX
end Go.CoreX
namespace Go.Proofs.YthboaankaaeemaaDoor
open Go Go.Abs Go.CoreX
variable {Γ:List (Nat×List AC)}
end Go.Proofs.YthboaankaaeemaaDoor
namespace Go.CoreX
end Go.CoreX
namespace Go.Proofs.YthboaankaaeemaaDoor
open Go Go.Abs Go.CoreX
theorem Qij{T:Tr}(h:okT T)(hc:cntN T<=1048576):okB (listT [] T):=Qf2 (Qdf _ h) hc
end Go.Proofs.YthboaankaaeemaaDoor
