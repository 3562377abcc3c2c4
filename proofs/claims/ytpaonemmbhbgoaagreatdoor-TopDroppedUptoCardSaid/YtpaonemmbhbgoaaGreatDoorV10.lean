/- Which nodes are atoms and values, walked. -/
import Derived.Test.YtpaonemmbhbgoaaGreatDoorV9
set_option maxRecDepth 10000
set_option linter.unusedVariables false
set_option linter.unusedSimpArgs false
namespace Go.Proofs.YtpaonemmbhbgoaaGreatDoor
open Go Go.Abs Go.CoreX
variable {Γ:List (Nat×List AC)}
theorem Q7p(l:List Tr):(Q0y l).length=l.length:=by simp[Q0y]
theorem Q9s:∀(m:Nat)(l:List Tr),Q0y (l.drop m)=(Q0y l).drop m
 |0,l=>rfl
 |m+1,[]=>rfl
 |m+1,t::l=>by simpa[Q0y]using Q9s m l
theorem Qgp(t:Tr):APure Tryz.prog Γ 126 [.one (.box (cTr t))] (.one (.lit (.bool (atomT t)))):=by
 intro ou
 refine AFn.walk 30 tabOk Tryz.func126 rfl (by kernel_rfl) rfl rfl fun hou=>?_
 repeat' first|refine zN ?_|(with_reducible refine oj ?_;refine AOps.splitS rfl rfl rfl rfl (fun hb=>?_) (fun hb=>?_))|(with_reducible refine ok ?_;first|refine ACode.condS rfl (fun hb=>?_) (fun hb=>?_)|refine ACode.cond rfl (fun hb=>?_) (fun hb=>?_))
 all_goals
  refine APure.fin rfl (WkF.ofEq ?_) (by simp) hou rfl
  try simp only[Q7p]at *
  have e:((t.kids.length:Int)==0)=(t.kids.length==0):=by rw[Bool.eq_iff_iff];simp
  unfold atomT
  simp_all
theorem Q8k{l:List Tr}{i:Nat}{t:Tr}(h:l[i]?=some t):valTs (l.take (i+1))=(valTs (l.take i)&&valT t):=by
 rw[Bool.eq_iff_iff,Bool.and_eq_true,Q64,Q64,Q11 h]
 constructor
 ·exact fun hh=>⟨fun t ht=>hh t (by simp[ht]),hh t (by simp)⟩
 ·rintro⟨h1,h2⟩ s hs
  rcases List.mem_append.1 hs with hs|hs
  ·exact h1 s hs
  ·simp at hs;subst hs;exact h2
theorem Qag:∀{l:List Tr}{m:Nat},l.length=m+1->Q8l l=valTs (l.drop m)
 |[],m,h=>by simp at h
 |x::l,0,h=>by
  have:l=[]:=List.length_eq_zero_iff.1 (by simpa using h)
  subst this
  simp[Q8l,valTs]
 |x::l,m+1,h=>by
  cases l with
  |nil=>simp at h
  |cons y l=>
   have:=Qag (l:=y::l) (m:=m) (by simpa using h)
   simpa only [Q8l,List.drop_succ_cons]using this
def valK (o:Int)(ks:List Tr):List Tr:=if o=5 then ks.drop (ks.length - 1)else ks
theorem valT_eq{o n:Int}{b:List Int}{ks:List Tr}{a:List Alt}(h:o=5->ks≠[]):valT (.mk o n b ks a)=(atomT (.mk o n b ks a)||o==2||((o==5||o==6||o==9||o==4)&&valTs (valK o ks))):=by
 simp only[valT]
 congr 1
 unfold valK
 by_cases h5:o=5
 ·rw[if_pos h5,if_pos h5]
  have hl:=List.length_pos_iff.2 (h h5)
  rw[Qag (m:=ks.length - 1) (by omega)]
  simp[h5]
 ·rw[if_neg h5,if_neg h5]
  split
  ·rename_i h6
   have:(o==5||o==6||o==9||o==4)=true:=by simp only[Bool.or_eq_true,beq_iff_eq];omega
   rw[this];simp
  ·rename_i h6
   have:(o==5||o==6||o==9||o==4)=false:=by
    simp only[Bool.or_eq_false_iff,beq_eq_false_iff_ne];omega
   rw[this];simp
def ValOk (Γ:List (Nat×List AC))(t:Tr):Prop:=APure Tryz.prog Γ 127 [.one (.box (cTr t))] (.one (.lit (.bool (valT t))))
theorem Q4t(hΓ:∀g cs,(g,cs)∈Γ->idsL isO cs):∀t:Tr,okT t->allT shpL t->ValOk Γ t
 |.mk o n b ks a,hok,hsh=>by
  have ih:∀t∈ks,ValOk Γ t:=fun t ht=>Q4t hΓ t (Q3w hok (by simpa using ht)) (Q1l hsh (by simpa using ht))
  have hk:ks.length<=1048576:=hok.2.1
  have h5:o=5->ks≠[]:=fun e e2=>by have:=(Qfn hsh e).1;subst e2;simp at this
  intro ou
  rw[valT_eq h5]
  refine AFn.walk 44 tabOk Tryz.func127 rfl (by kernel_rfl) rfl rfl fun hou=>?_
  refine zA ?_
  refine zca hΓ (Qgp (.mk o n b ks a)) hou ?_
  refine zA ?_
  generalize atomT (.mk o n b ks a)=A
  refine AOps.splitS rfl rfl rfl rfl (fun hA=>?_) (fun hA=>?_)
  ·subst hA
   refine zA ?_
   exact APure.fin rfl (WkF.ofEq (by simp)) (by simp) hou rfl
  subst hA
  refine zA ?_
  refine ACode.cond rfl (fun hb=>?_) (fun hb=>?_)
  ·have h2:(o==2)=true:=hb
   refine zA ?_
   exact APure.fin rfl (WkF.ofEq (by simp[h2])) (by simp) hou rfl
  have h2:(o==2)=false:=hb
  refine zA ?_
  refine ACode.cutN 1 rfl hΓ (α:=Unit) (fun _=>[(3,.one (.sl 1 (Q0y (valK o ks))))]) (fun _=>⟨0,[],ou⟩) (fun _=>(o==5||o==6||o==9||o==4)=true) ?_ fun _ hg=>?_
  ·dsimp only [List.take_succ_cons,List.take_zero,List.cons_append,List.nil_append]
   repeat' first|refine zN ?_|(with_reducible refine oj ?_;refine AOps.splitS rfl rfl rfl rfl (fun hb=>?_) (fun hb=>?_))|(with_reducible refine ok ?_;first|refine ACode.condS rfl (fun hb=>?_) (fun hb=>?_)|refine ACode.cond rfl (fun hb=>?_) (fun hb=>?_))
   ·have h5':o=5:=by simpa using hb
    have hl:=List.length_pos_iff.2 (h5 h5')
    refine AOps.wk 28 rfl (y:=.one (int ((ks.length - 1:Nat):Int))) (.ofEq (by simp[Q7p];omega)) ?_
    refine zS (AStep.sliceFrom (sz:=1) tabOk rfl rfl rfl rfl rfl rfl rfl (by simp[Q7p])) ?_
    refine zA ?_
    exact cInv ⟨(),id,by simp[h5'],LessR.of rfl (FrSub.consP rfl (.ofEq (by unfold valK;rw[if_pos h5',Q9s];rfl)) (by simp) .nil) (by simp) .nil rfl rfl hou⟩
   iterate 3
    ·have h5':o≠5:=by simp_all
     exact cInv ⟨(),id,by simp_all,LessR.of rfl (FrSub.consP rfl (.ofEq (by unfold valK;rw[if_neg h5'];rfl)) (by simp) .nil) (by simp) .nil rfl rfl hou⟩
   ·refine APure.fin rfl (WkF.ofEq ?_) (by simp) hou rfl
    simp_all
  rw[hg]
  obtain⟨L,hL⟩:∃L,L=valK o ks:=⟨_,rfl⟩
  rw[←hL]
  have hLm:∀t∈L,ValOk Γ t:=by
   intro t ht
   rw[hL]at ht
   unfold valK at ht
   split at ht
   ·exact ih t (List.mem_of_mem_drop ht)
   ·exact ih t ht
  have hLl:L.length<=1048576:=by
   rw[hL];unfold valK
   split
   ·simp;omega
   ·exact hk
  clear hL
  refine zA ?_
  refine ACode.loopR hΓ (α:=Nat) (fun j=>[(36,.one (int j)),(35,.one (int (Q0y L).length)),(34,.one (.sl 1 (Q0y L)))])
   (fun j=>⟨0,[],ou⟩) (fun m j=>j<=L.length/\valTs (L.take j)=true/\m=L.length - j) (a0:=0) (ρ:=id) ⟨by omega,by simp[valTs],rfl⟩ (LessR.of rfl zFS (by simp) zLO rfl rfl hou) fun m j hj=>?_
  obtain⟨hjl,hno,rfl⟩:=hj
  refine zA ?_
  refine ACode.cond rfl (fun hb2=>?_) (fun hb2=>?_)
  ·have hlt:j < L.length:=by simpa using hb2
   obtain⟨t,ht⟩:=Q00 hlt
   have hvs:=Q8k ht
   rw[hno,Bool.true_and]at hvs
   refine zA ?_
   refine zS (zIA rfl rfl rfl (by omega) (Q2g ht)) ?_
   refine zA ?_
   refine zca hΓ (hLm t (List.mem_of_getElem? ht)) hou ?_
   refine zA ?_
   refine ACode.condS rfl (fun hb3=>?_) (fun hb3=>?_)
   ·have hv:valT t=false:=by simpa using hb3
    refine zA ?_
    refine APure.fin rfl (WkF.ofEq ?_) (by simp) hou rfl
    have:valTs L=false:=by
     rw[←Bool.not_eq_true,Q64]
     intro h
     rw[h t (List.mem_of_getElem? ht)]at hv
     cases hv
    rw[this,h2];rfl
   ·have hv:valT t=true:=by simpa using hb3
    refine zM ?_
    exact cInv ⟨L.length - (j+1),j+1,id,by omega,⟨by omega,by rw[hvs,hv],rfl⟩,LessR.of rfl zFS (by simp) zLO rfl rfl hou⟩
  ·have hlt:j=L.length:=by simp at hb2;omega
   subst hlt
   rw[List.take_length]at hno
   refine zA ?_
   refine APure.fin rfl (WkF.ofEq ?_) (by simp) hou rfl
   rw[hno,h2];rfl
end Go.Proofs.YtpaonemmbhbgoaaGreatDoor
namespace Go.CoreX
mutual
def usesL (id:Int):LTr->List LTr
 |.mk i o n nb b ks a=>if o=0 then (if n=id then [.mk i o n nb b ks a]else [])else Q1a id ks
def Q1a (id:Int):List LTr->List LTr
 |[]=>[]
 |t::l=>usesL id t++Q1a id l
end
mutual
theorem Q4u(id:Int):∀t:LTr,(usesL id t).length=usesN id (erT t)
 |.mk i o n nb b ks a=>by
  simp only[usesL,erT,usesN]
  split
  ·split <;> rfl
  ·exact Q72 id ks
theorem Q72(id:Int):∀l:List LTr,(Q1a id l).length=Q4m id (erTs l)
 |[]=>rfl
 |t::l=>by simp only[Q1a,erTs,Q4m,List.length_append,Q4u id t,Q72 id l]
end
theorem Qai(id:Int):∀(l r:List LTr),Q1a id (l++r)=Q1a id l++Q1a id r
 |[],r=>rfl
 |t::l,r=>by simp only[List.cons_append,Q1a,Qai id l r,List.append_assoc]
mutual
theorem Qbx(id:Int):∀t:Tr,usesN id t<=cntN t
 |.mk o n b ks a=>by
  have:=Q8n id ks
  simp only[usesN,cntN]
  split
  ·split <;> omega
  ·omega
theorem Q8n(id:Int):∀l:List Tr,Q4m id l<=cntNs l
 |[]=>by simp[Q4m,cntNs]
 |t::l=>by
  have h1:=Qbx id t
  have h2:=Q8n id l
  simp only[Q4m,cntNs];omega
end
end Go.CoreX
namespace Go.Proofs.YtpaonemmbhbgoaaGreatDoor
open Go Go.Abs Go.CoreX
variable {Γ:List (Nat×List AC)}
theorem Q59(t:LTr):(erT t).kids=t.kids.map erT:=by cases t;simp[erT,LTr.kids,Q0t]
theorem Q2w{t s:LTr}(h:s∈t.kids):erT s∈(erT t).kids:=by rw[Q59];exact List.mem_map_of_mem h
theorem Q1t{ou:Outer}{t s:LTr}(h:Owns ou (objs t))(hs:s∈t.kids):Owns ou (objs s):=fun p hp=>h p ((Q8c t p).2 (.inr (Q8d hs hp)))
theorem Q4q{l:List LTr}{i:Nat}{t:LTr}(h:l[i]?=some t):(kC l)[i]?=some [.ptr (.o t.id) 0]:=by simp[kC,h]
theorem Qi9(l r:List LTr):kC (l++r)=kC l++kC r:=by simp[kC]
theorem Q1n(l:List LTr):(kC l).length=l.length:=by simp[kC]
def UsesOk (Γ:List (Nat×List AC))(t:LTr):Prop:=∀(id:Int)(ou:Outer),Owns ou (objs t)->AFn Tryz.prog Γ 130 [.one (.ptr (.o t.id) 0),.one (int id)] ou (fun r ou'=>r=.one (.sl 1 (kC (usesL id t)))/\ou'=ou)
theorem Qfj(hΓ:∀g cs,(g,cs)∈Γ->idsL isO cs):∀t:LTr,okT (erT t)->cntN (erT t)<=1048576->UsesOk Γ t
 |.mk i o n nb b ks a,hok,hc=>by
  intro q ou ho
  have hkl:ks.length<=1048576:=by have:=hok.2.1;simpa[Q0t]using this
  have ih:∀t∈ks,UsesOk Γ t:=fun t ht=>Qfj hΓ t (Q3w hok (Q2w (t:=.mk i o n nb b ks a) ht)) (by
   have:=Q5y ht
   simp only[erT,cntN]at hc;omega)
  have hi:ou i=some (.cells (lC (.mk i o n nb b ks a))):=Q0f ho
  simp only[lC]at hi
  refine AFn.walk 37 tabOk Tryz.func130 rfl (by kernel_rfl) rfl rfl fun hou=>?_
  refine zA ?_
  refine zS (zLD rfl rfl hi rfl) ?_
  refine zA ?_
  refine ACode.cond rfl (fun hb1=>?_) (fun hb1=>?_)
  ·have h0:o=0:=by simpa using hb1
   refine zA ?_
   refine zS (zLD rfl rfl hi rfl) ?_
   refine zA ?_
   refine ACode.cond rfl (fun hb2=>?_) (fun hb2=>?_)
   ·have h2:n=q:=by simpa using hb2
    refine zA ?_
    refine AFn.fin' rfl (WkF.ofEq ?_) (by simp) hou ⟨rfl,rfl⟩
    simp only[usesL,if_pos h0,if_pos h2];rfl
   ·have h2:¬n=q:=by simpa using hb2
    refine zA ?_
    refine AFn.fin' rfl (WkF.one (.nilS 1)) (by simp) hou ⟨?_,rfl⟩
    simp only[usesL,if_pos h0,if_neg h2];rfl
  have h0:¬o=0:=by simpa using hb1
  refine zA ?_
  refine zS (zLD rfl rfl hi rfl) ?_
  refine zA ?_
  refine ACode.growS 5 81 1 rfl ?_
  refine ACode.loopR hΓ (α:=Nat) (fun j=>[(26,.one (int j)),(25,.one (int (kC ks).length)),(24,.one (.sl 1 (kC ks))),(5,.one (.gs 1 (kC (Q1a q (ks.take j))) (.l 0))),(1,.one (int q))])
   (fun j => ⟨1, [(0, .tok 81 1 (kC (Q1a q (ks.take j))).length)], ou⟩) (fun m j => j <= ks.length /\ m = ks.length - j) (a0 := 0) (ρ := id) ⟨by omega, rfl⟩ (LessR.of rfl zFS (by simp) zLO rfl rfl hou) fun m j hj => ?_
  obtain⟨hjl,rfl⟩:=hj
  refine zA ?_
  refine ACode.cond rfl (fun hb2=>?_) (fun hb2=>?_)
  ·have hlt:j < ks.length:=by simpa[Q1n]using hb2
   obtain⟨t,ht⟩:=Q00 hlt
   have htm:=List.mem_of_getElem? ht
   have hsn:Q1a q (ks.take (j+1))=Q1a q (ks.take j)++usesL q t:=by rw[Q11 ht,Qai];simp[Q1a]
   have hle:(kC (Q1a q (ks.take j))).length+(kC (usesL q t)).length<=1048576:=by
    have h1:=Q72 q (ks.take (j+1))
    have h2:=Q8n q (erTs (ks.take (j+1)))
    have h3:cntNs (erTs (ks.take (j+1)))<=cntNs (erTs ks):=by
     have:erTs ks=erTs (ks.take (j+1))++erTs (ks.drop (j+1)):=by rw[Q0t,Q0t,Q0t,←List.map_append,List.take_append_drop]
     rw[this,Q5b];omega
    simp only[erT,cntN]at hc
    rw[hsn,List.length_append]at h1
    rw[Q1n,Q1n];omega
   refine zA ?_
   refine zS (zIA rfl rfl rfl (by omega) (Q4q ht)) ?_
   refine zA ?_
   refine AOps.call1 hΓ rfl rfl rfl rfl rfl rfl rfl (by exact⟨trivial,trivial,trivial⟩) hou (ih t htm q ou (Q1t ho htm)) fun r ou' hq _ _=>?_
   obtain⟨rfl,rfl⟩:=hq
   refine zA ?_
   refine AOps.app tabOk rfl rfl rfl rfl rfl rfl rfl rfl rfl (Base.gs' _ 81 1 _ _ rfl rfl) (.sl _ _) rfl ?_ ?_ ?_
   ·show _ * 8<=_;omega
   ·omega
   refine zM ?_
   have hsk:kC (Q1a q (ks.take (j+1)))=kC (Q1a q (ks.take j))++kC (usesL q t):=by rw[hsn,Qi9]
   refine cInv ⟨ks.length - (j+1),j+1,fun k=>if k=0 then 1 else k,by omega,⟨by omega,rfl⟩,?_⟩
   simp only[hsk]
   refine LessR.of rfl (FrSub.cons rfl (.ofEq rfl) (FrSub.cons rfl (.ofEq rfl) (FrSub.consP rfl (.ofEq rfl) (by simp) (FrSub.consGs rfl rfl (by rw[←Qi9];simp) (FrSub.cons rfl (.ofEq rfl) .nil))))) (by rw[←Qi9];simp) zLO rfl rfl hou
  ·have hlt:j=ks.length:=by simp[Q1n]at hb2;omega
   subst hlt
   refine zA ?_
   refine AFn.fin' rfl (WkF.one (.gsE rfl)) (by simp) hou ⟨?_,rfl⟩
   simp only[usesL,if_neg h0,List.take_length]
def letN (k:Nat)(q:Int)(v d:LTr):LTr:=.mk k 4 0 none [q] [v,d] []
theorem Qci(k:Nat)(q:Int)(v d:LTr):erT (letN k q v d)=letT q (erT v) (erT d):=by simp[letN,letT,erT,erTs]
theorem Qi4(k:Nat)(q:Int)(v d:LTr):(AObj.cells (lC (letN k q v d))).ids isO:=by
 simp only[letN,lC,AObj.ids,idsL,AC.ids,true_and,and_true]
 exact⟨Qek _ (fun _=>trivial) _ _,Qie _ (fun _=>trivial) _,Q6j _ (fun _=>trivial) _⟩
theorem Qi3(hΓ:∀g cs,(g,cs)∈Γ->idsL isO cs)(q:Int)(v d:LTr)(ou:Outer):AFn Tryz.prog Γ 129 [.one (int q),.one (.ptr (.o v.id) 0),.one (.ptr (.o d.id) 0)] ou
  (fun r ou'=>∃k,r=.one (.ptr (.o k) 0)/\NewO ou ou' [(k,.cells (lC (letN k q v d)))]):=by
 refine AFn.walk 14 tabOk Tryz.func129 rfl (by kernel_rfl) rfl rfl fun hou=>?_
 iterate 14 (first|((with_reducible refine oj ?_);refine zau ?_)|(with_reducible refine zst ?_)|((with_reducible refine Q0k ?_ ?_);rfl)|(with_reducible refine ok ?_;first|refine ACode.condT rfl ?_|refine ACode.condF rfl ?_))
 refine AOps.wkObj (.l 0) rfl (cs':=lC (letN 0 q v d)) (fun w C xs h=>?_) ?_
 ·exact (show WkL _ _ from .cons (.refl _) (.cons (.refl _) (.cons (.refl _) (.cons (.refl _) (.cons (.nilS 2) .nil))))) w C xs h
 refine AOps.cedes [0] rfl (by decide) hou fun k hk=>⟨[(13,.one (.ptr (.o k) 0))],[],[.cells (lC (letN k q v d))],.cons rfl rfl .nil,.nil,?_,?_⟩
 ·exact .cons rfl (AObj.sub_f (fun i hi=>by cases i with|l q=>exact hi.elim|o q=>rfl) _ (Qi4 0 q v d)) .nil
 have hN:=NewO.add hk hou (Qi4 k q v d)
 refine zA ?_
 exact AFn.fin' rfl (WkF.ofEq rfl) (by simp) hN.ok ⟨k,rfl,hN⟩
def PartO (ou ou1:Outer)(S l:List (Nat×AObj)):Prop:=∀p∈l,p∈S∨(ou p.1=none/\ou1 p.1=some p.2)
theorem NewO.oldS{ou ou':Outer}{L:List (Nat×AObj)}(h:NewO ou ou' L){j:Nat}{o:AObj}(hj:ou j=some o):ou' j=some o:=by
 rw[h.old j fun hm=>by have:=h.new j hm;rw[hj]at this;cases this];exact hj
theorem Der.node{ou ou1 ou2:Outer}{S:List (Nat×AObj)}{u:LTr}(h:∀j o,ou j=some o->ou1 j=some o)(hN:NewO ou1 ou2 [(u.id,.cells (lC u))])(ht:PartO ou ou1 S (tailO u)):Der ou ou2 S u:=by
 refine⟨fun j o hj=>hN.oldS (h j o hj),fun p hp=>?_,hN.ok⟩
 rw[Q0d]at hp
 rcases List.mem_cons.1 hp with rfl|hp
 ·refine .inr ⟨?_,hN.own _ (by simp)⟩
  have h1:=hN.new u.id (by simp[keys])
  cases ho:ou u.id with
  |none=>rfl
  |some o=>rw[h _ _ ho]at h1;cases h1
 ·rcases ht p hp with h1|⟨h1,h2⟩
  ·exact .inl h1
  ·exact .inr ⟨h1,hN.oldS h2⟩
theorem PartO.app{ou ou1:Outer}{S l r:List (Nat×AObj)}(hl:PartO ou ou1 S l)(hr:PartO ou ou1 S r):PartO ou ou1 S (l++r):=fun p hp=>(List.mem_append.1 hp).elim (hl p) (hr p)
theorem PartO.of{ou ou1:Outer}{S l:List (Nat×AObj)}(h:∀p∈l,p∈S):PartO ou ou1 S l:=fun p hp=>.inl (h p hp)
theorem Der.let{ou ou1 ou2:Outer}{S:List (Nat×AObj)}{u v:LTr}{k:Nat}{q:Int}(h:Der ou ou1 S u)(hN:NewO ou1 ou2 [(k,.cells (lC (letN k q v u)))])(hv:PartO ou ou1 S (objs v)):Der ou ou2 S (letN k q v u):=by
 refine Der.node (u:=letN k q v u) h.old hN ?_
 simp only[letN,tailO,bO,aO,List.flatMap_nil,List.append_nil,List.nil_append,objss]
 exact hv.app h.part
theorem Qlj(hΓ:∀g cs,(g,cs)∈Γ->idsL isO cs)(ids:List Int)(l:List LTr)(d:LTr)(hl:ids.length=l.length)(hb:l.length<=1048576)(ou:Outer):AFn Tryz.prog Γ 106 [.one (.sl 1 (ids.map cI)),.one (.sl 1 (kC l)),.one (.ptr (.o d.id) 0)] ou
  (fun r ou'=>∃u,r=.one (.ptr (.o u.id) 0)/\erT u=letsT ids (l.map erT) (erT d)/\Der ou ou' (objss l++objs d) u):=by
 refine AFn.walk 26 tabOk Tryz.func106 rfl (by kernel_rfl) rfl rfl fun hou=>?_
 refine zM ?_
 refine ACode.loopR hΓ (α:=Nat×Outer×LTr) (fun c=>[(7,.one (int ((c.1:Int) - 1))),(2,.one (.ptr (.o c.2.2.id) 0)),(1,.one (.sl 1 (kC l))),(0,.one (.sl 1 (ids.map cI)))])
  (fun c=>⟨0,[],c.2.1⟩) (fun m c=>c.1<=ids.length/\(erT c.2.2=letsT (ids.drop c.1) ((l.drop c.1).map erT) (erT d)/\Der ou c.2.1 (objss l++objs d) c.2.2)/\m=c.1) (a0:=(ids.length,ou,d)) (ρ:=id) ⟨by omega,⟨?_,?_⟩,rfl⟩ (LessR.of rfl (FrSub.cons rfl (.ofEq (by simp;rfl)) zFS) (by simp) zLO rfl rfl hou) fun m c hc=>?_
 ·simp[letsT]
 ·exact Der.refl (fun p hp=>List.mem_append.2 (.inr hp)) hou
 obtain⟨j,ov,u⟩:=c
 obtain⟨hjl,⟨her,hD⟩,hmj⟩:=hc
 dsimp only at hjl her hD hmj
 have hov:=hD.ok
 refine zA ?_
 refine ACode.cond rfl (fun hb2=>?_) (fun hb2=>?_)
 ·have hlt:0 < j:=by simp at hb2;omega
  obtain⟨i,rfl⟩:∃i,j=i+1:=⟨j - 1,by omega⟩
  obtain⟨q,hq⟩:=Q00 (l:=ids) (i:=i) (by omega)
  obtain⟨v,hv⟩:=Q00 (l:=l) (i:=i) (by omega)
  refine zA ?_
  refine ACode.wk 7 rfl (y:=.one (int ((i:Nat):Int))) (.ofEq (by congr 3;push_cast;omega)) ?_
  refine ACode.drawC tabOk 10 [9] [(2,.one (.box [int q])),(6,.one (.box [.ptr (.o v.id) 0]))] (fun vs σ=>match vs with
    |[]=>σ=⟨0,[],ov⟩
    |[a]=>∃k ow,a=.one (.ptr (.o k) 0)/\NewO ov ow [(k,.cells (lC (letN k q v u)))]/\σ=⟨0,[],ow⟩
    |_=>False) follows (by kernel_rfl) rfl rfl (by decide) (by kernel_rfl) (by kernel_rfl) rfl rfl ?_ ?_ (by decide) ?_ ?_
  ·rintro vs σ hG
   match vs,hG with
   |[],hG=>subst hG;rfl
   |[a],hG=>obtain⟨k,ow,_,_,rfl⟩:=hG;rfl
  ·rintro vs σ hG
   refine .step rfl (zHP (zIA rfl rfl rfl (by omega) (Q05 hq))) ?_
   exact .step rfl (zHP (zIA rfl rfl rfl (by omega) (Q4q hv))) .nil
  ·rintro vs σ hG p o hi ho
   match vs,hG with
   |[],hG=>
    subst hG
    cases hi
    cases ho
    refine⟨rfl,rfl,.inr ⟨rfl,Q13.call hΓ rfl rfl rfl rfl (by exact⟨trivial,trivial,trivial,trivial⟩) hov (Qi3 hΓ q v u ov) fun r ow hq _ _=>?_⟩⟩
    obtain⟨k,rfl,hN⟩:=hq
    exact⟨k,ow,rfl,hN,rfl⟩
   |[a],hG=>cases hi
  rintro vs σ hlen hG
  match vs,hlen,hG with
  |[a],_,hG=>
  obtain⟨k,ow,rfl,hN,rfl⟩:=hG
  have hD2:=hD.let hN (PartO.of fun p hp=>List.mem_append.2 (.inl (by rw[Q4a];exact List.mem_flatMap.2 ⟨v,List.mem_of_getElem? hv,hp⟩)))
  refine zM ?_
  refine cInv ⟨i,(i,ow,letN k q v u),id,by omega,⟨by omega,⟨?_,hD2⟩,rfl⟩,LessR.of rfl zFS (by simp) .nil rfl rfl hN.ok⟩
  obtain⟨h1,h2⟩:=List.getElem?_eq_some_iff.1 hq
  obtain⟨h3,h4⟩:=List.getElem?_eq_some_iff.1 hv
  rw[Qci,her,List.drop_eq_getElem_cons h1,List.drop_eq_getElem_cons h3,h2,h4]
  rfl
 ·have hlt:j=0:=by simp at hb2;omega
  subst hlt
  refine zA ?_
  refine AFn.fin' rfl (WkF.ofEq rfl) (by simp) hov ⟨u,rfl,?_,hD⟩
  rw[her];simp
def Qdz (nb:Nb)(l:List Int):Prop:=nb=none
mutual
def Q3o:LTr->Prop
 |.mk i o n nb b ks a=>nb=none/\(∀x∈a,x.nb=none)/\Q77 ks
def Q77:List LTr->Prop
 |[]=>True
 |t::l=>Q3o t/\Q77 l
end
theorem Q5t:∀{l:List LTr},Q77 l↔∀t∈l,Q3o t
 |[]=>by simp[Q77]
 |t::l=>by simp[Q77,Q5t (l:=l)]
theorem Q15{t s:LTr}(h:Q3o t)(hs:s∈t.kids):Q3o s:=by
 cases t with
 |mk i o n nb b ks a=>exact Q5t.1 h.2.2 s hs
theorem Qdd(hΓ:∀g cs,(g,cs)∈Γ->idsL isO cs)(i:Nat)(o n:Int)(b:List Int)(ks:List LTr)(a:List LAlt)(hok:okT (erT (.mk i o n none b ks a)))(hc:cntN (erT (.mk i o n none b ks a))<=1048576)(hlen:b.length < ks.length)(ou:Outer)(ho:Owns ou (objs (.mk i o n none b ks a))):
  AFn Tryz.prog Γ 108 [.one (.ptr (.o i) 0)] ou (fun r ou'=>r=.one (.lit (.bool (Q5r (erT (.mk i o n none b ks a)))))/\ou'=ou):=by
 have hi:ou i=some (.cells (lC (.mk i o n none b ks a))):=Q0f ho
 simp only[lC,bC]at hi
 have hbl:b.length<=1048576:=hok.1
 have hkl:ks.length<=1048576:=by have:=hok.2.1;simpa[Q0t]using this
 obtain⟨t,ht⟩:=Q00 hlen
 have htm:=List.mem_of_getElem? ht
 have hkt:kidT (erT (.mk i o n none b ks a)) b.length=erT t:=by
  unfold kidT
  simp only[erT,Tr.kids_mk,Q0t]
  rw[List.getD_eq_getElem?_getD,List.getElem?_map,ht];rfl
 have hut:=Qfj hΓ t (Q3w hok (Q2w (t:=.mk i o n none b ks a) htm)) (by
  have:=Q5y htm
  simp only[erT,cntN]at hc;omega)
 have hun:Q5r (erT (.mk i o n none b ks a))=b.all fun q=>usesN q (erT t)==0:=by
  unfold Q5r
  rw[show (erT (.mk i o n none b ks a)).binds=b from rfl,hkt]
 have hlim:∀q,usesN q (erT t)<=1048576:=fun q=>by
  have h1:=Qbx q (erT t)
  have h2:=Q5y htm
  simp only[erT,cntN]at hc;omega
 rw[hun]
 refine AFn.walk 30 tabOk Tryz.func108 rfl (by kernel_rfl) rfl rfl fun hou=>?_
 repeat' first|refine zN ?_|((with_reducible refine oj ?_);first|refine zix ?_|refine zow rfl rfl hi ?_)
 refine ACode.loopR hΓ (α:=Nat) (fun j=>[(10,.one (int j)),(9,.one (int (b.map cI).length)),(8,.one (.sl 1 (b.map cI))),(0,.one (.ptr (.o i) 0))])
  (fun j=>⟨0,[],ou⟩) (fun m j=>j<=b.length/\((b.take j).all fun q=>usesN q (erT t)==0)=true/\m=b.length - j) (a0:=0) (ρ:=id) ⟨by omega,rfl,rfl⟩ (LessR.of rfl zFS (by simp) zLO rfl rfl hou) fun m j hj=>?_
 obtain⟨hjl,hno,rfl⟩:=hj
 refine zA ?_
 refine ACode.cond rfl (fun hb2=>?_) (fun hb2=>?_)
 ·have hlt:j < b.length:=by simpa using hb2
  obtain⟨q,hq⟩:=Q00 hlt
  refine zA ?_
  refine zS (zIA rfl rfl rfl (by omega) (Q05 hq)) ?_
  refine zA ?_
  have hcall:=hut q ou (Q1t ho htm)
  refine ACode.drawX tabOk 14 [(3,.one (.sl 1 (kC ks))),(7,.one (.sl 1 (b.map cI))),(9,.one (.box [.ptr (.o t.id) 0])),(12,.one (.sl 1 (kC (usesL q t))))] follows (by kernel_rfl) rfl rfl rfl rfl ?_ ?_
  ·refine .step rfl (zHP (zLD rfl rfl hi rfl)) ?_
   refine .step rfl (zHP (zLD rfl rfl hi rfl)) ?_
   refine .step rfl (zHP (zIA rfl rfl rfl (by simp) (by simpa using Q4q ht))) ?_
   exact .step rfl (zHP (AStep.callE hΓ rfl rfl rfl rfl (by exact⟨trivial,trivial,trivial⟩) hou hcall)) .nil
  refine zA ?_
  have hlen2:(kC (usesL q t)).length=usesN q (erT t):=by rw[Q1n,Q4u]
  rw[hlen2]
  refine ACode.condS rfl (fun hb3=>?_) (fun hb3=>?_)
  ·have h3:usesN q (erT t)≠0:=by simp at hb3;omega
   refine zA ?_
   refine AFn.fin' rfl (WkF.ofEq ?_) (by simp) hou ⟨rfl,rfl⟩
   congr 3
   symm
   rw[List.all_eq_false]
   exact⟨q,List.mem_of_getElem? hq,by simpa using h3⟩
  ·have h3:usesN q (erT t)=0:=by simp at hb3;omega
   refine zM ?_
   refine cInv ⟨b.length - (j+1),j+1,id,by omega,⟨by omega,?_,rfl⟩,LessR.of rfl zFS (by simp) zLO rfl rfl hou⟩
   rw[Q11 hq,List.all_append,hno]
   simp[h3]
 ·have hlt:j=b.length:=by simp at hb2;omega
  subst hlt
  rw[List.take_length]at hno
  refine zA ?_
  exact AFn.fin' rfl (WkF.ofEq (by rw[hno])) (by simp) hou ⟨rfl,rfl⟩
abbrev nilP:FV:=.one (.lit (.pointer none))
def ResD (ou:Outer)(t:LTr)(x:Option Tr)(r:FV)(ou':Outer):Prop:=match x with
 |none=>r=nilP/\OuOk ou'/\∀j o,ou j=some o->ou' j=some o
 |some X=>∃u:LTr,r=.one (.ptr (.o u.id) 0)/\erT u=X/\Der ou ou' (tailO t) u
theorem ResD.no{ou:Outer}{t:LTr}{r:FV}(hr:r=nilP)(hou:OuOk ou):ResD ou t none r ou:=⟨hr,hou,fun _ _ h=>h⟩
theorem Q3b{t s q:LTr}(h:s∈t.kids)(hq:q∈s.kids){p:Nat×AObj}(hp:p∈objs q):p∈tailO t:=Q20 h ((Q8c s p).2 (.inr (Q8d hq hp)))
theorem Q3m.t1{σ:St}{t:LTr}(h:Owns σ.ou (objs t)):Q3m σ [.one (.ptr (.o t.id) 0)] [.one (.box (cTr (erT t)))]:=.cons (LendF.tree h) .nil
theorem Qim(hΓ:∀g cs,(g,cs)∈Γ->idsL isO cs)(i:Nat)(o n:Int)(b:List Int)(row:LTr)(rs:List LTr)(a:List LAlt)(hpl:Q3o row)(hok:okT (erT (.mk i o n none b (row::rs) a)))(hsh:allT shpL (erT (.mk i o n none b (row::rs) a)))(ou:Outer)(ho:Owns ou (objs (.mk i o n none b (row::rs) a))):
  AFn Tryz.prog Γ 104 [.one (.ptr (.o i) 0)] ou (ResD ou (.mk i o n none b (row::rs) a) (Q9p (erT (.mk i o n none b (row::rs) a)))):=by
 have hi:ou i=some (.cells (lC (.mk i o n none b (row::rs) a))):=Q0f ho
 simp only[lC,bC]at hi
 have hrm:row∈(LTr.mk i o n none b (row::rs) a).kids:=by simp[LTr.kids]
 have hro:=Q1t ho hrm
 have hrk:=Q3w hok (Q2w hrm)
 have hrs:=Q1l hsh (Q2w hrm)
 have hval:=Q4t hΓ (erT row) hrk hrs
 have hf:Q9p (erT (.mk i o n none b (row::rs) a))=if (erT row).op≠9∨valT (erT row)=false then none else Q58 n (erT row).binds (erT row).kids:=rfl
 rw[hf]
 cases row with
 |mk j op2 n2 nb2 b2 ks2 a2=>
 obtain rfl:nb2=none:=hpl.1
 have hj:ou j=some (.cells (lC (.mk j op2 n2 none b2 ks2 a2))):=Q0f hro
 simp only[lC,bC]at hj
 refine AFn.walk 46 tabOk Tryz.func104 rfl (by kernel_rfl) rfl rfl fun hou=>?_
 repeat' first|refine zN ?_|((with_reducible refine oj ?_);first|refine zix ?_|refine zow rfl rfl hi ?_|refine zow rfl rfl hj ?_)
 have hsl:=fun h9=>shp_row (o:=op2) (n:=n2) (b:=b2) (k:=erTs ks2) (a:=a2.map LAlt.er) hrs h9
 have hb2l:b2.length<=1048576:=hrk.1
 obtain⟨X,hX⟩:∃X,X=Q58 n (erT (.mk j op2 n2 none b2 ks2 a2)).binds (erT (.mk j op2 n2 none b2 ks2 a2)).kids:=⟨_,rfl⟩
 rw[←hX]
 have hX':X=Q58 n b2 (erTs ks2):=hX
 have hop:(erT (.mk j op2 n2 none b2 ks2 a2)).op=op2:=rfl
 rw[hop]
 refine AOps.splitS rfl rfl rfl rfl (fun hb1=>?_) (fun hb1=>?_)
 ·have h9:op2≠9:=by simpa using hb1
  repeat' first|refine zN ?_|((with_reducible refine oj ?_);first|refine zix ?_|refine zow rfl rfl hi ?_|refine zow rfl rfl hj ?_)
  exact AFn.fin' rfl (WkF.refl _) (by simp) hou (by rw[if_pos (.inl h9)];exact ResD.no rfl hou)
 have h9:op2=9:=by simpa using hb1
 have hsl:=hsl h9
 rw[Q0t,List.length_map]at hsl
 repeat' first|refine zN ?_|((with_reducible refine oj ?_);first|refine zix ?_|refine zow rfl rfl hi ?_|refine zow rfl rfl hj ?_)
 refine AOps.callS hΓ hval (Plain.lit _) rfl rfl rfl rfl rfl rfl (Q3m.t1 hro) ?_
 repeat' first|refine zN ?_|((with_reducible refine oj ?_);first|refine zix ?_|refine zow rfl rfl hi ?_|refine zow rfl rfl hj ?_)
 refine ACode.condS rfl (fun hv=>?_) (fun hv=>?_)
 ·have hv':valT (erT (.mk j op2 n2 none b2 ks2 a2))=false:=by simpa using hv
  refine zA ?_
  exact AFn.fin' rfl (WkF.refl _) (by simp) hou (by rw[if_pos (.inr hv')];exact ResD.no rfl hou)
 have hv':valT (erT (.mk j op2 n2 none b2 ks2 a2))=true:=by simpa using hv
 rw[if_neg (by rw[hv'];simp[h9])]
 repeat' first|refine zN ?_|((with_reducible refine oj ?_);first|refine zix ?_|refine zow rfl rfl hi ?_|refine zow rfl rfl hj ?_)
 refine ACode.loopR hΓ (α:=Nat) (fun q=>[(27,.one (int q)),(26,.one (int (b2.map cI).length)),(25,.one (.sl 1 (b2.map cI))),(3,.one (.ptr (.o j) 0)),(0,.one (.ptr (.o i) 0))])
  (fun q=>⟨0,[],ou⟩) (fun m q=>q<=b2.length/\X=Q58 n (b2.drop q) ((erTs ks2).drop q)/\m=b2.length - q) (a0:=0) (ρ:=id) ⟨by omega,hX',rfl⟩ (LessR.of rfl zFS (by simp) zLO rfl rfl hou) fun m q hq=>?_
 obtain⟨hql,hXq,rfl⟩:=hq
 refine zA ?_
 refine ACode.cond rfl (fun hb2=>?_) (fun hb2=>?_)
 ·have hlt:q < b2.length:=by simpa using hb2
  obtain⟨v,hv3⟩:=Q00 hlt
  obtain⟨s,hs⟩:=Q00 (l:=ks2) (i:=q) (by omega)
  obtain⟨h1,h2⟩:=List.getElem?_eq_some_iff.1 hv3
  have hs2:(erTs ks2)[q]?=some (erT s):=by rw[Q0t];simp[hs]
  obtain⟨h3,h4⟩:=List.getElem?_eq_some_iff.1 hs2
  rw[List.drop_eq_getElem_cons h1,List.drop_eq_getElem_cons h3,h2,h4]at hXq
  simp only[Q58]at hXq
  refine zA ?_
  refine zS (zIA rfl rfl rfl (by omega) (Q05 hv3)) ?_
  repeat' first|refine zN ?_|((with_reducible refine oj ?_);first|refine zix ?_|refine zow rfl rfl hi ?_|refine zow rfl rfl hj ?_)
  refine ACode.cond rfl (fun hb3=>?_) (fun hb3=>?_)
  ·have he:v=n:=by simpa using hb3
   rw[if_pos he]at hXq
   repeat' first|refine zN ?_|((with_reducible refine oj ?_);first|refine zix ?_|refine zow rfl rfl hi ?_|refine zow rfl rfl hj ?_)
   refine zS (zIA rfl rfl rfl (by omega) (by simpa using Q4q hs)) ?_
   refine zA ?_
   refine AFn.fin' rfl (WkF.refl _) (by simp) hou ?_
   rw[hXq]
   exact⟨s,rfl,rfl,Der.refl (fun p hp=>Q3b hrm (by simpa[LTr.kids]using List.mem_of_getElem? hs) hp) hou⟩
  ·have he:¬v=n:=by simpa using hb3
   rw[if_neg he]at hXq
   refine zM ?_
   exact cInv ⟨b2.length - (q+1),q+1,id,by omega,⟨by omega,hXq,rfl⟩,LessR.of rfl zFS (by simp) zLO rfl rfl hou⟩
 ·have hlt:q=b2.length:=by simp at hb2;omega
  subst hlt
  refine zA ?_
  refine AFn.fin' rfl (WkF.refl _) (by simp) hou ?_
  rw[hXq,List.drop_length]
  exact ResD.no rfl hou
theorem Qf2{con:Tr}{n2:Int}{K:List Tr}(h1:con.n=n2)(h2:con.kids=K)(tag:Int)(xb:List Int)(l:List Alt)(k:Tr)(ks:List Tr):
  Q3x con (⟨tag,xb⟩::l) (k::ks)=if tag=n2 then (if xb.length≠K.length then none else some (letsT xb K k))else if tag=-1/\valT con=true then some k else Q3x con l ks:=by
 subst h1;subst h2;rfl
set_option maxHeartbeats 1000000 in
theorem Qf1(hΓ:∀g cs,(g,cs)∈Γ->idsL isO cs)(i:Nat)(o n:Int)(b:List Int)(con:LTr)(rs:List LTr)(a:List LAlt)(hpl:Q3o con)(hpa:∀x∈a,x.nb=none)(hlen:rs.length=a.length)(hok:okT (erT (.mk i o n none b (con::rs) a)))(hsh:allT shpL (erT (.mk i o n none b (con::rs) a)))(ou:Outer)(ho:Owns ou (objs (.mk i o n none b (con::rs) a))):
  AFn Tryz.prog Γ 105 [.one (.ptr (.o i) 0)] ou (ResD ou (.mk i o n none b (con::rs) a) (Q5z (erT (.mk i o n none b (con::rs) a)))):=by
 have hi:ou i=some (.cells (lC (.mk i o n none b (con::rs) a))):=Q0f ho
 simp only[lC,bC]at hi
 have hrm:con∈(LTr.mk i o n none b (con::rs) a).kids:=by simp[LTr.kids]
 have hro:=Q1t ho hrm
 have hrk:=Q3w hok (Q2w hrm)
 have hval:=Q4t hΓ (erT con) hrk (Q1l hsh (Q2w hrm))
 have hal:a.length<=1048576:=by have:=hok.2.2.1;simpa using this
 have hf:Q5z (erT (.mk i o n none b (con::rs) a))=Q3x (erT con) (a.map LAlt.er) (erTs rs):=rfl
 obtain⟨X,hX⟩:∃X,X=Q5z (erT (.mk i o n none b (con::rs) a)):=⟨_,rfl⟩
 rw[←hX]
 rw[hf]at hX
 obtain⟨t,hte⟩:∃t,t=LTr.mk i o n none b (con::rs) a:=⟨_,rfl⟩
 rw[←hte]at hrm ⊢
 have htail:∀(s:LTr),s∈con::rs->∀p∈objs s,p∈tailO t:=fun s hs p hp=>Q20 (by rw[hte];exact hs) hp
 cases con with
 |mk j oo2 n2 nb2 b2 ks2 a2=>
 obtain rfl:nb2=none:=hpl.1
 have hj:ou j=some (.cells (lC (.mk j oo2 n2 none b2 ks2 a2))):=Q0f hro
 simp only[lC,bC]at hj
 have hkl2:ks2.length<=1048576:=by have:=hrk.2.1;simpa[Q0t]using this
 refine AFn.walk 81 tabOk Tryz.func105 rfl (by kernel_rfl) rfl rfl fun hou=>?_
 repeat' first|refine zN ?_|((with_reducible refine oj ?_);first|refine zix ?_|refine zow rfl rfl hi ?_|refine zow rfl rfl hj ?_)
 refine ACode.loopR hΓ (α:=Nat) (fun q=>[(17,.one (int q)),(16,.one (int (a.map lAlt).length)),(15,.one (.sl 2 (a.map lAlt))),(3,.one (.ptr (.o j) 0)),(0,.one (.ptr (.o i) 0))])
  (fun q=>⟨0,[],ou⟩) (fun m q=>q<=a.length/\X=Q3x (erT (.mk j oo2 n2 none b2 ks2 a2)) ((a.drop q).map LAlt.er) (erTs (rs.drop q))/\m=a.length - q) (a0:=0) (ρ:=id) ⟨by omega,hX,rfl⟩ (LessR.of rfl ?_ (by simp) zLO rfl rfl hou) fun m q hq=>?_
 ·refine FrSub.cons rfl (.ofEq rfl) (FrSub.cons rfl (.ofEq rfl) (FrSub.consP rfl (.ofEq rfl) (by simp) (FrSub.cons rfl (.ofEq rfl) (FrSub.cons rfl (.ofEq rfl) .nil))))
 obtain⟨hql,hXq,rfl⟩:=hq
 clear hX
 refine zA ?_
 refine ACode.cond rfl (fun hb2=>?_) (fun hb2=>?_)
 ·have hlt:q < a.length:=by simpa using hb2
  obtain⟨x,hx⟩:=Q00 hlt
  obtain⟨s,hs⟩:=Q00 (l:=rs) (i:=q) (by omega)
  obtain⟨h1,h2⟩:=List.getElem?_eq_some_iff.1 hx
  obtain⟨h3,h4⟩:=List.getElem?_eq_some_iff.1 hs
  have hxn:=hpa x (List.mem_of_getElem? hx)
  have hxb:x.binds.length<=1048576:=hok.2.2.2.1.1 x.er (List.mem_map_of_mem (List.mem_of_getElem? hx))
  rw[List.drop_eq_getElem_cons h1,List.drop_eq_getElem_cons h3,h2,h4]at hXq
  rw[List.map_cons,erTs]at hXq
  have hsx:(con_rs:List LTr)->con_rs=.mk j oo2 n2 none b2 ks2 a2::rs->(kC con_rs)[((1:Int)+(q:Int)).toNat]?=some [.ptr (.o s.id) 0]:=fun l hl=>by
   subst hl
   rw[show ((1:Int)+(q:Int)).toNat=q+1 by omega]
   exact Q4q (by simpa using hs)
  obtain⟨tag,nbx,xb⟩:=x
  obtain rfl:nbx=none:=hxn
  rw[show LAlt.er ⟨tag,none,xb⟩=⟨tag,xb⟩from rfl,Qf2 (con:=erT (.mk j oo2 n2 none b2 ks2 a2)) (n2:=n2) (K:=ks2.map erT) rfl (by rw[Q59];rfl)]at hXq
  refine zA ?_
  refine zS (zIA rfl rfl rfl (by omega) (Q05 hx)) ?_
  refine zA ?_
  by_cases ht:tag=n2
  ·refine ACode.drawX tabOk 18 [(5,.one (int n2)),(6,.one (.lit (.bool true))),(14,.one (.sl 1 (kC ks2)))] follows (by kernel_rfl) rfl rfl rfl rfl ?_ ?_
   ·refine .step rfl (zHP (zLD rfl rfl hj rfl)) ?_
    refine .step rfl (HStep.litB tabOk rfl (by simp[ht])) ?_
    exact .step rfl (HStep.guarded rfl rfl rfl (zLD rfl rfl hj rfl)) .nil
   refine zA ?_
   rw[if_pos ht]at hXq
   have hne:((xb.map cI).length:Int)=(xb.length:Int):=by simp
   have hne2:((kC ks2).length:Int)=(ks2.length:Int):=by simp[Q1n]
   rw[List.length_map]at hXq
   refine ACode.condS rfl (fun hb3=>?_) (fun hb3=>?_)
   ·have hl:xb.length≠ks2.length:=by simp[Q1n]at hb3;omega
    rw[if_pos hl]at hXq
    refine zA ?_
    exact AFn.fin' rfl (WkF.refl _) (by simp) hou (by rw[hXq];exact ResD.no rfl hou)
   have hl:xb.length=ks2.length:=by simp[Q1n]at hb3;omega
   rw[if_neg (by omega)]at hXq
   refine zA ?_
   refine ACode.drawX tabOk 7 [(5,.one (int n2)),(6,.one (.lit (.bool true)))] follows (by kernel_rfl) rfl rfl rfl rfl ?_ ?_
   ·refine .step rfl (zHP (zLD rfl rfl hj rfl)) ?_
    exact .step rfl (HStep.litB tabOk rfl (by simp[ht])) .nil
   refine zA ?_
   refine ACode.drawC tabOk 15 [14] [(5,.one (.sl 1 (kC ks2))),(9,.one (.sl 1 (kC (.mk j oo2 n2 none b2 ks2 a2::rs)))),(11,.one (int ((1:Int)+(q:Int)))),(12,.one (.box [.ptr (.o s.id) 0]))] (fun vs σ=>match vs with
     |[]=>σ=⟨1,[(0,.cells [int tag,bC none xb]),(0,.cells (ti46.zero.map .lit))],ou⟩
     |[r]=>∃(u:LTr) (ow:Outer),r=.one (.ptr (.o u.id) 0)/\erT u=letsT xb (ks2.map erT) (erT s)/\Der ou ow (objss ks2++objs s) u/\σ=⟨1,[(0,.cells [int tag,bC none xb]),(0,.cells (ti46.zero.map .lit))],ow⟩
     |_=>False) follows (by kernel_rfl) rfl rfl (by decide) (by kernel_rfl) (by kernel_rfl) rfl rfl ?_ ?_ (by decide) ?_ ?_
   ·rintro vs σ hG
    match vs,hG with
    |[],hG=>subst hG;rfl
    |[r],hG=>obtain⟨u,ow,_,_,_,rfl⟩:=hG;rfl
   ·rintro vs σ hG
    have hj':σ.ou j=some (.cells [int oo2,int n2,.sl 1 (b2.map cI),.sl 1 (kC ks2),.sl 2 (a2.map lAlt)])/\σ.ou i=some (.cells [int o,int n,.sl 1 (b.map cI),.sl 1 (kC (.mk j oo2 n2 none b2 ks2 a2::rs)),.sl 2 (a.map lAlt)]):=by
     match vs,hG with
     |[],hG=>subst hG;exact⟨hj,hi⟩
     |[r],hG=>obtain⟨u,ow,_,_,hD,rfl⟩:=hG;exact⟨hD.old _ _ hj,hD.old _ _ hi⟩
    refine .step rfl (zHP (zLD rfl rfl hj'.1 rfl)) ?_
    refine .step rfl (zHP (zLD rfl rfl hj'.2 rfl)) ?_
    refine .step rfl (zHP (AStep.arith rfl rfl rfl (.inl ⟨rfl,rfl⟩) zI)) ?_
    exact .step rfl (zHP (zIA rfl rfl rfl (by omega) (hsx _ rfl))) .nil
   ·rintro vs σ hG p oo hp1 hp2
    match vs,hG with
    |[],hG=>
     subst hG
     cases hp1
     cases hp2
     refine⟨rfl,rfl,.inr ⟨rfl,Q13.call hΓ rfl rfl rfl rfl (by exact⟨by simp,by simp,trivial,trivial⟩) hou (Qlj hΓ xb ks2 s hl hkl2 ou) fun r ow hq _ _=>?_⟩⟩
     obtain⟨u,rfl,he,hD⟩:=hq
     exact⟨u,ow,rfl,he,hD,rfl⟩
    |[r],hG=>cases hp1
   rintro vs σ hlen2 hG
   match vs,hlen2,hG with
   |[r],_,hG=>
   obtain⟨u,ow,rfl,he,hD,rfl⟩:=hG
   refine zM ?_
   refine AFn.fin' rfl (WkF.refl _) (by simp) hD.ok ?_
   rw[hXq]
   refine⟨u,rfl,?_,hD.mono fun p hp=>?_⟩
   ·exact he
   ·rcases List.mem_append.1 hp with hp|hp
    ·rw[Q4a]at hp
     obtain⟨s2,hs2,hp2⟩:=List.mem_flatMap.1 hp
     exact Q3b hrm hs2 hp2
    ·exact htail s (by simp[List.mem_of_getElem? hs]) p hp
  ·refine ACode.drawX tabOk 18 [(5,.one (int n2)),(6,.one (.lit (.bool false)))] follows (by kernel_rfl) rfl rfl rfl rfl ?_ ?_
   ·refine .step rfl (zHP (zLD rfl rfl hj rfl)) ?_
    exact .step rfl (HStep.litB tabOk rfl (by simp[ht])) .nil
   rw[if_neg ht]at hXq
   refine zA ?_
   refine ACode.drawX tabOk 7 [(5,.one (int n2)),(6,.one (.lit (.bool false)))] follows (by kernel_rfl) rfl rfl rfl rfl ?_ ?_
   ·refine .step rfl (zHP (zLD rfl rfl hj rfl)) ?_
    exact .step rfl (HStep.litB tabOk rfl (by simp[ht])) .nil
   refine zA ?_
   refine AOps.splitS rfl rfl rfl rfl (fun hb3=>?_) (fun hb3=>?_)
   ·have ht1:tag=-1:=by simpa using hb3
    refine zM ?_
    refine AOps.callS hΓ hval (Plain.lit _) rfl rfl rfl rfl rfl rfl (Q3m.t1 (t:=.mk j oo2 n2 none b2 ks2 a2) hro) ?_
    refine zA ?_
    refine ACode.condS rfl (fun hv=>?_) (fun hv=>?_)
    ·have hv':valT (erT (.mk j oo2 n2 none b2 ks2 a2))=true:=hv
     rw[if_pos ⟨ht1,hv'⟩]at hXq
     repeat' first|refine zN ?_|((with_reducible refine oj ?_);first|refine zix ?_|refine zow rfl rfl hi ?_)
     refine zS (zIA rfl rfl rfl (by omega) (hsx _ rfl)) ?_
     refine zA ?_
     refine AFn.fin' rfl (WkF.refl _) (by simp) hou ?_
     rw[hXq]
     exact⟨s,rfl,rfl,Der.refl (htail s (by simp[List.mem_of_getElem? hs])) hou⟩
    ·have hv':valT (erT (.mk j oo2 n2 none b2 ks2 a2))=false:=hv
     rw[if_neg (by rw[hv'];simp)]at hXq
     refine zM ?_
     exact cInv ⟨a.length - (q+1),q+1,id,by omega,⟨by omega,hXq,rfl⟩,LessR.of rfl zFS (by simp) .nil rfl rfl hou⟩
   ·have ht1:tag≠-1:=by simpa using hb3
    rw[if_neg (fun h=>ht1 h.1)]at hXq
    refine zM ?_
    exact cInv ⟨a.length - (q+1),q+1,id,by omega,⟨by omega,hXq,rfl⟩,LessR.of rfl zFS (by simp) .nil rfl rfl hou⟩
 ·have hlt:q=a.length:=by simp at hb2;omega
  subst hlt
  refine zA ?_
  refine AFn.fin' rfl (WkF.refl _) (by simp) hou ?_
  rw[hXq,List.drop_length]
  exact ResD.no rfl hou
theorem Q70(n:Int)(h0:-4611686018427387904<=n)(h1:n<=4611686018427387904):APure Tryz.prog Γ 128 [.one (int n)] (.one (int (wrapI n))):=by
 intro ou
 refine AFn.walk 7 tabOk Tryz.func128 rfl (by kernel_rfl) rfl rfl fun hou=>?_
 refine zM ?_
 refine zS (AStep.and rfl rfl rfl) ?_
 rw[Qj0]
 have h4:0<=(n - (-1073741824)) % 2147483648:=Int.emod_nonneg _ (by decide)
 have h5:(n - (-1073741824)) % 2147483648 < 2147483648:=Int.emod_lt_of_pos _ (by decide)
 refine zM ?_
 refine APure.fin rfl (WkF.ofEq ?_) (by simp) hou rfl
 unfold wrapI
 congr 3
theorem Qak{a:Int}(b:Int)(ha:-1073741824<=a/\a<=1073741823):-1073741824<=a.tdiv b/\a.tdiv b<=1073741824:=by
 have h1:(a.tdiv b).natAbs<=a.natAbs:=by
  rw[Int.natAbs_tdiv];exact Nat.div_le_self _ _
 omega
theorem Qaj{a:Int}(b:Int)(ha:-1073741824<=a/\a<=1073741823):-1073741824<=a.tmod b/\a.tmod b<=1073741824:=by
 have h1:(a.tmod b).natAbs<=a.natAbs:=by
  rw[Int.natAbs_tmod];exact Nat.mod_le _ _
 omega
set_option maxHeartbeats 2000000 in
theorem Qix(hΓ:∀g cs,(g,cs)∈Γ->idsL isO cs)(i:Nat)(o n:Int)(b:List Int)(x y:LTr)(a:List LAlt)(hrx:(erT x).op=1->-1073741824<=(erT x).n/\(erT x).n<=1073741823)(hry:(erT y).op=1->-1073741824<=(erT y).n/\(erT y).n<=1073741823)(ou:Outer)(ho:Owns ou (objs (.mk i o n none b [x,y] a))):
  AFn Tryz.prog Γ 103 [.one (.ptr (.o i) 0)] ou (ResD ou (.mk i o n none b [x,y] a) (Q82 (erT (.mk i o n none b [x,y] a)))):=by
 have hi:ou i=some (.cells (lC (.mk i o n none b [x,y] a))):=Q0f ho
 simp only[lC,bC]at hi
 have hxo:=Q1t ho (s:=x) (by simp[LTr.kids])
 have hyo:=Q1t ho (s:=y) (by simp[LTr.kids])
 cases x with
 |mk jx ox nx nbx bx kx ax=>
 cases y with
 |mk jy oy ny nby by' ky ay=>
 have hx:ou jx=some (.cells (lC (.mk jx ox nx nbx bx kx ax))):=Q0f hxo
 have hy:ou jy=some (.cells (lC (.mk jy oy ny nby by' ky ay))):=Q0f hyo
 simp only[lC]at hx hy
 obtain⟨X,hX⟩:∃X,X=Q82 (erT (.mk i o n none b [.mk jx ox nx nbx bx kx ax,.mk jy oy ny nby by' ky ay] a)):=⟨_,rfl⟩
 rw[←hX]
 have hA:X=if n > 6∨ox≠1∨oy≠1 then none
  else if n=0 then some (wordT (wrapI (nx+ny)))
  else if n=1 then some (wordT (wrapI (nx - ny)))
  else if n=2 then some (wordT (wrapI (nx * ny)))
  else if n=3 then (if ny=0 then none else some (wordT (wrapI (nx.tdiv ny))))
  else if n=4 then (if ny=0 then none else some (wordT (wrapI (nx.tmod ny))))
  else if n=6 then some (flagT (nx==ny))
  else if n=5 then some (flagT (decide (nx < ny)))
  else some (wordT (wrapI 0)):=hX
 clear hX
 generalize hT:LTr.mk i o n none b [.mk jx ox nx nbx bx kx ax,.mk jy oy ny nby by' ky ay] a=t
 refine AFn.walk 114 tabOk Tryz.func103 rfl (by kernel_rfl) rfl rfl fun hou=>?_
 by_cases hbad:n > 6∨ox≠1∨oy≠1
 ·rw[if_pos hbad]at hA
  repeat' first|refine zN ?_|((with_reducible refine oj ?_);first|refine zix ?_|refine zow rfl rfl hi ?_|refine zow rfl rfl hx ?_|refine zow rfl rfl hy ?_)|(with_reducible refine oj ?_;refine AOps.splitS rfl rfl rfl rfl (fun hb=>?_) (fun hb=>?_))|(with_reducible refine ok ?_;first|refine ACode.condS rfl (fun hb=>?_) (fun hb=>?_)|refine ACode.cond rfl (fun hb=>?_) (fun hb=>?_))
  all_goals first
   |(exfalso;simp at *;omega)
   |skip
  all_goals exact AFn.fin' rfl (WkF.refl _) (by simp) hou (by rw[hA];exact ResD.no rfl hou)
 rw[if_neg hbad]at hA
 obtain⟨hn6,rfl,rfl⟩:n<=6/\ox=1/\oy=1:=by omega
 have hrx:=hrx rfl
 have hry:=hry rfl
 simp only[erT,Tr.n_mk]at hrx hry
 rcases (by omega:n=0∨n=1∨n=2∨n=3∨n=4∨n=5∨n=6∨n < 0)with rfl|rfl|rfl|rfl|rfl|rfl|rfl|hneg
 ·repeat' first|refine zN ?_|((with_reducible refine oj ?_);first|refine zix ?_|refine zow rfl rfl hi ?_|refine zow rfl rfl hx ?_|refine zow rfl rfl hy ?_)
  refine ACode.drawX tabOk 19 [(3,.one (.sl 1 (kC [.mk jx 1 nx nbx bx kx ax,.mk jy 1 ny nby by' ky ay]))),(4,.one (.box [.ptr (.o jx) 0])),(8,.one (int nx)),(12,.one (.sl 1 (kC [.mk jx 1 nx nbx bx kx ax,.mk jy 1 ny nby by' ky ay]))),(13,.one (.box [.ptr (.o jy) 0])),(17,.one (int ny))] follows (by kernel_rfl) rfl rfl rfl rfl ?_ ?_
  ·refine .step rfl (zHP (zLD rfl rfl hi rfl)) ?_
   refine .step rfl (zHP (zIA rfl rfl rfl (by decide) rfl)) ?_
   refine .step rfl (zHP (zLD rfl rfl hx rfl)) ?_
   refine .step rfl (zHP (zLD rfl rfl hi rfl)) ?_
   refine .step rfl (zHP (zIA rfl rfl rfl (by decide) rfl)) ?_
   exact .step rfl (zHP (zLD rfl rfl hy rfl)) .nil
  repeat ((fail_if_success ((with_reducible refine oj ?_);refine AOps.atDst 104 rfl ?_));first|refine zO ?_|((with_reducible refine oj ?_);first|refine zix ?_|refine zow rfl rfl hi ?_|refine zow rfl rfl hx ?_|refine zow rfl rfl hy ?_))
  refine zca hΓ (Q70 (nx+ny) (by omega) (by omega)) hou ?_
  repeat ((fail_if_success ((with_reducible refine oj ?_);refine AOps.atDst 2 rfl ?_));first|refine zO ?_)
  refine AOps.wkObj (.l 0) rfl (cs':=lC (.mk 0 1 (wrapI (nx+ny)) none [] [] [])) (fun w C xs h=>?_) ?_
  ·exact (show WkL _ _ from .cons (.refl _) (.cons (.refl _) (.cons (.nilS 1) (.cons (.nilS 1) (.cons (.nilS 2) .nil))))) w C xs h
  refine AOps.cedes [0] rfl (by decide) hou fun k hk=>⟨[(106,.one (.ptr (.o k) 0))],[],[.cells (lC (.mk k 1 (wrapI (nx+ny)) none [] [] []))],.cons rfl rfl .nil,.nil,?_,?_⟩
  ·exact .cons rfl rfl .nil
  have hN:=NewO.add hk hou (show (AObj.cells (lC (.mk k 1 (wrapI (nx+ny)) none [] [] []))).ids isO by simp[lC,bC,kC])
  refine zA ?_
  refine AFn.fin' rfl (WkF.refl _) (by simp) hN.ok ?_
  rw[hA]
  exact⟨.mk k 1 (wrapI (nx+ny)) none [] [] [],rfl,rfl,Der.node (u:=.mk k 1 (wrapI (nx+ny)) none [] [] []) (fun _ _ h=>h) hN (fun p hp=>by simp[tailO,bO,aO,objss]at hp)⟩
 ·repeat' first|refine zN ?_|((with_reducible refine oj ?_);first|refine zix ?_|refine zow rfl rfl hi ?_|refine zow rfl rfl hx ?_|refine zow rfl rfl hy ?_)
  refine ACode.drawX tabOk 19 [(3,.one (.sl 1 (kC [.mk jx 1 nx nbx bx kx ax,.mk jy 1 ny nby by' ky ay]))),(4,.one (.box [.ptr (.o jx) 0])),(8,.one (int nx)),(12,.one (.sl 1 (kC [.mk jx 1 nx nbx bx kx ax,.mk jy 1 ny nby by' ky ay]))),(13,.one (.box [.ptr (.o jy) 0])),(17,.one (int ny))] follows (by kernel_rfl) rfl rfl rfl rfl ?_ ?_
  ·refine .step rfl (zHP (zLD rfl rfl hi rfl)) ?_
   refine .step rfl (zHP (zIA rfl rfl rfl (by decide) rfl)) ?_
   refine .step rfl (zHP (zLD rfl rfl hx rfl)) ?_
   refine .step rfl (zHP (zLD rfl rfl hi rfl)) ?_
   refine .step rfl (zHP (zIA rfl rfl rfl (by decide) rfl)) ?_
   exact .step rfl (zHP (zLD rfl rfl hy rfl)) .nil
  repeat ((fail_if_success ((with_reducible refine oj ?_);refine AOps.atDst 104 rfl ?_));first|refine zO ?_|((with_reducible refine oj ?_);first|refine zix ?_|refine zow rfl rfl hi ?_|refine zow rfl rfl hx ?_|refine zow rfl rfl hy ?_))
  refine zca hΓ (Q70 (nx - ny) (by omega) (by omega)) hou ?_
  repeat ((fail_if_success ((with_reducible refine oj ?_);refine AOps.atDst 2 rfl ?_));first|refine zO ?_)
  refine AOps.wkObj (.l 0) rfl (cs':=lC (.mk 0 1 (wrapI (nx - ny)) none [] [] [])) (fun w C xs h=>?_) ?_
  ·exact (show WkL _ _ from .cons (.refl _) (.cons (.refl _) (.cons (.nilS 1) (.cons (.nilS 1) (.cons (.nilS 2) .nil))))) w C xs h
  refine AOps.cedes [0] rfl (by decide) hou fun k hk=>⟨[(106,.one (.ptr (.o k) 0))],[],[.cells (lC (.mk k 1 (wrapI (nx - ny)) none [] [] []))],.cons rfl rfl .nil,.nil,?_,?_⟩
  ·exact .cons rfl rfl .nil
  have hN:=NewO.add hk hou (show (AObj.cells (lC (.mk k 1 (wrapI (nx - ny)) none [] [] []))).ids isO by simp[lC,bC,kC])
  refine zA ?_
  refine AFn.fin' rfl (WkF.refl _) (by simp) hN.ok ?_
  rw[hA]
  exact⟨.mk k 1 (wrapI (nx - ny)) none [] [] [],rfl,rfl,Der.node (u:=.mk k 1 (wrapI (nx - ny)) none [] [] []) (fun _ _ h=>h) hN (fun p hp=>by simp[tailO,bO,aO,objss]at hp)⟩
 ·repeat' first|refine zN ?_|((with_reducible refine oj ?_);first|refine zix ?_|refine zow rfl rfl hi ?_|refine zow rfl rfl hx ?_|refine zow rfl rfl hy ?_)
  refine ACode.drawX tabOk 19 [(3,.one (.sl 1 (kC [.mk jx 1 nx nbx bx kx ax,.mk jy 1 ny nby by' ky ay]))),(4,.one (.box [.ptr (.o jx) 0])),(8,.one (int nx)),(12,.one (.sl 1 (kC [.mk jx 1 nx nbx bx kx ax,.mk jy 1 ny nby by' ky ay]))),(13,.one (.box [.ptr (.o jy) 0])),(17,.one (int ny))] follows (by kernel_rfl) rfl rfl rfl rfl ?_ ?_
  ·refine .step rfl (zHP (zLD rfl rfl hi rfl)) ?_
   refine .step rfl (zHP (zIA rfl rfl rfl (by decide) rfl)) ?_
   refine .step rfl (zHP (zLD rfl rfl hx rfl)) ?_
   refine .step rfl (zHP (zLD rfl rfl hi rfl)) ?_
   refine .step rfl (zHP (zIA rfl rfl rfl (by decide) rfl)) ?_
   exact .step rfl (zHP (zLD rfl rfl hy rfl)) .nil
  have hm:=Qlg hrx hry
  repeat' first|refine zN ?_|((with_reducible refine oj ?_);first|refine zix ?_|refine zow rfl rfl hi ?_|refine zow rfl rfl hx ?_|refine zow rfl rfl hy ?_)
  refine zS (AStep.arith (r:=nx * ny) rfl rfl rfl (.inr (.inr ⟨rfl,rfl⟩)) zI) ?_
  repeat ((fail_if_success ((with_reducible refine oj ?_);refine AOps.atDst 104 rfl ?_));first|refine zO ?_|((with_reducible refine oj ?_);first|refine zix ?_|refine zow rfl rfl hi ?_|refine zow rfl rfl hx ?_|refine zow rfl rfl hy ?_))
  refine zca hΓ (Q70 (nx * ny) (by omega) (by omega)) hou ?_
  repeat ((fail_if_success ((with_reducible refine oj ?_);refine AOps.atDst 2 rfl ?_));first|refine zO ?_)
  refine AOps.wkObj (.l 0) rfl (cs':=lC (.mk 0 1 (wrapI (nx * ny)) none [] [] [])) (fun w C xs h=>?_) ?_
  ·exact (show WkL _ _ from .cons (.refl _) (.cons (.refl _) (.cons (.nilS 1) (.cons (.nilS 1) (.cons (.nilS 2) .nil))))) w C xs h
  refine AOps.cedes [0] rfl (by decide) hou fun k hk=>⟨[(106,.one (.ptr (.o k) 0))],[],[.cells (lC (.mk k 1 (wrapI (nx * ny)) none [] [] []))],.cons rfl rfl .nil,.nil,?_,?_⟩
  ·exact .cons rfl rfl .nil
  have hN:=NewO.add hk hou (show (AObj.cells (lC (.mk k 1 (wrapI (nx * ny)) none [] [] []))).ids isO by simp[lC,bC,kC])
  refine zA ?_
  refine AFn.fin' rfl (WkF.refl _) (by simp) hN.ok ?_
  rw[hA]
  exact⟨.mk k 1 (wrapI (nx * ny)) none [] [] [],rfl,rfl,Der.node (u:=.mk k 1 (wrapI (nx * ny)) none [] [] []) (fun _ _ h=>h) hN (fun p hp=>by simp[tailO,bO,aO,objss]at hp)⟩
 ·repeat' first|refine zN ?_|((with_reducible refine oj ?_);first|refine zix ?_|refine zow rfl rfl hi ?_|refine zow rfl rfl hx ?_|refine zow rfl rfl hy ?_)
  refine ACode.drawX tabOk 19 [(3,.one (.sl 1 (kC [.mk jx 1 nx nbx bx kx ax,.mk jy 1 ny nby by' ky ay]))),(4,.one (.box [.ptr (.o jx) 0])),(8,.one (int nx)),(12,.one (.sl 1 (kC [.mk jx 1 nx nbx bx kx ax,.mk jy 1 ny nby by' ky ay]))),(13,.one (.box [.ptr (.o jy) 0])),(17,.one (int ny))] follows (by kernel_rfl) rfl rfl rfl rfl ?_ ?_
  ·refine .step rfl (zHP (zLD rfl rfl hi rfl)) ?_
   refine .step rfl (zHP (zIA rfl rfl rfl (by decide) rfl)) ?_
   refine .step rfl (zHP (zLD rfl rfl hx rfl)) ?_
   refine .step rfl (zHP (zLD rfl rfl hi rfl)) ?_
   refine .step rfl (zHP (zIA rfl rfl rfl (by decide) rfl)) ?_
   exact .step rfl (zHP (zLD rfl rfl hy rfl)) .nil
  repeat' first|refine zN ?_|((with_reducible refine oj ?_);first|refine zix ?_|refine zow rfl rfl hi ?_|refine zow rfl rfl hx ?_|refine zow rfl rfl hy ?_)
  have hd:=Qak ny hrx
  have hmo:=Qaj ny hrx
  refine ACode.condS rfl (fun h0=>?_) (fun h0=>?_)
  ·have h0':ny=0:=by simpa using h0
   refine zA ?_
   rw[if_neg (by decide),if_neg (by decide),if_neg (by decide),if_pos rfl,if_pos h0']at hA
   exact AFn.fin' rfl (WkF.refl _) (by simp) hou (by rw[hA];exact ResD.no rfl hou)
  have h0':ny≠0:=by simpa using h0
  rw[if_neg (by decide),if_neg (by decide),if_neg (by decide),if_pos rfl,if_neg h0']at hA
  repeat' first|refine zN ?_|((with_reducible refine oj ?_);first|refine zix ?_|refine zow rfl rfl hi ?_|refine zow rfl rfl hx ?_|refine zow rfl rfl hy ?_)
  refine zS (AStep.quo rfl rfl rfl h0' zI) ?_
  repeat ((fail_if_success ((with_reducible refine oj ?_);refine AOps.atDst 104 rfl ?_));first|refine zO ?_|((with_reducible refine oj ?_);first|refine zix ?_|refine zow rfl rfl hi ?_|refine zow rfl rfl hx ?_|refine zow rfl rfl hy ?_))
  refine zca hΓ (Q70 (nx.tdiv ny) (by omega) (by omega)) hou ?_
  repeat ((fail_if_success ((with_reducible refine oj ?_);refine AOps.atDst 2 rfl ?_));first|refine zO ?_)
  refine AOps.wkObj (.l 0) rfl (cs':=lC (.mk 0 1 (wrapI (nx.tdiv ny)) none [] [] [])) (fun w C xs h=>?_) ?_
  ·exact (show WkL _ _ from .cons (.refl _) (.cons (.refl _) (.cons (.nilS 1) (.cons (.nilS 1) (.cons (.nilS 2) .nil))))) w C xs h
  refine AOps.cedes [0] rfl (by decide) hou fun k hk=>⟨[(106,.one (.ptr (.o k) 0))],[],[.cells (lC (.mk k 1 (wrapI (nx.tdiv ny)) none [] [] []))],.cons rfl rfl .nil,.nil,?_,?_⟩
  ·exact .cons rfl rfl .nil
  have hN:=NewO.add hk hou (show (AObj.cells (lC (.mk k 1 (wrapI (nx.tdiv ny)) none [] [] []))).ids isO by simp[lC,bC,kC])
  refine zA ?_
  refine AFn.fin' rfl (WkF.refl _) (by simp) hN.ok ?_
  rw[hA]
  exact⟨.mk k 1 (wrapI (nx.tdiv ny)) none [] [] [],rfl,rfl,Der.node (u:=.mk k 1 (wrapI (nx.tdiv ny)) none [] [] []) (fun _ _ h=>h) hN (fun p hp=>by simp[tailO,bO,aO,objss]at hp)⟩
 ·repeat' first|refine zN ?_|((with_reducible refine oj ?_);first|refine zix ?_|refine zow rfl rfl hi ?_|refine zow rfl rfl hx ?_|refine zow rfl rfl hy ?_)
  refine ACode.drawX tabOk 19 [(3,.one (.sl 1 (kC [.mk jx 1 nx nbx bx kx ax,.mk jy 1 ny nby by' ky ay]))),(4,.one (.box [.ptr (.o jx) 0])),(8,.one (int nx)),(12,.one (.sl 1 (kC [.mk jx 1 nx nbx bx kx ax,.mk jy 1 ny nby by' ky ay]))),(13,.one (.box [.ptr (.o jy) 0])),(17,.one (int ny))] follows (by kernel_rfl) rfl rfl rfl rfl ?_ ?_
  ·refine .step rfl (zHP (zLD rfl rfl hi rfl)) ?_
   refine .step rfl (zHP (zIA rfl rfl rfl (by decide) rfl)) ?_
   refine .step rfl (zHP (zLD rfl rfl hx rfl)) ?_
   refine .step rfl (zHP (zLD rfl rfl hi rfl)) ?_
   refine .step rfl (zHP (zIA rfl rfl rfl (by decide) rfl)) ?_
   exact .step rfl (zHP (zLD rfl rfl hy rfl)) .nil
  repeat' first|refine zN ?_|((with_reducible refine oj ?_);first|refine zix ?_|refine zow rfl rfl hi ?_|refine zow rfl rfl hx ?_|refine zow rfl rfl hy ?_)
  have hd:=Qak ny hrx
  have hmo:=Qaj ny hrx
  refine ACode.condS rfl (fun h0=>?_) (fun h0=>?_)
  ·have h0':ny=0:=by simpa using h0
   refine zA ?_
   rw[if_neg (by decide),if_neg (by decide),if_neg (by decide),if_neg (by decide),if_pos rfl,if_pos h0']at hA
   exact AFn.fin' rfl (WkF.refl _) (by simp) hou (by rw[hA];exact ResD.no rfl hou)
  have h0':ny≠0:=by simpa using h0
  rw[if_neg (by decide),if_neg (by decide),if_neg (by decide),if_neg (by decide),if_pos rfl,if_neg h0']at hA
  repeat' first|refine zN ?_|((with_reducible refine oj ?_);first|refine zix ?_|refine zow rfl rfl hi ?_|refine zow rfl rfl hx ?_|refine zow rfl rfl hy ?_)
  refine zS (AStep.quo rfl rfl rfl h0' zI) ?_
  repeat' first|refine zN ?_|((with_reducible refine oj ?_);first|refine zix ?_|refine zow rfl rfl hi ?_|refine zow rfl rfl hx ?_|refine zow rfl rfl hy ?_)
  refine zS (AStep.rem rfl rfl rfl h0') ?_
  repeat ((fail_if_success ((with_reducible refine oj ?_);refine AOps.atDst 104 rfl ?_));first|refine zO ?_|((with_reducible refine oj ?_);first|refine zix ?_|refine zow rfl rfl hi ?_|refine zow rfl rfl hx ?_|refine zow rfl rfl hy ?_))
  refine zca hΓ (Q70 (nx.tmod ny) (by omega) (by omega)) hou ?_
  repeat ((fail_if_success ((with_reducible refine oj ?_);refine AOps.atDst 2 rfl ?_));first|refine zO ?_)
  refine AOps.wkObj (.l 0) rfl (cs':=lC (.mk 0 1 (wrapI (nx.tmod ny)) none [] [] [])) (fun w C xs h=>?_) ?_
  ·exact (show WkL _ _ from .cons (.refl _) (.cons (.refl _) (.cons (.nilS 1) (.cons (.nilS 1) (.cons (.nilS 2) .nil))))) w C xs h
  refine AOps.cedes [0] rfl (by decide) hou fun k hk=>⟨[(106,.one (.ptr (.o k) 0))],[],[.cells (lC (.mk k 1 (wrapI (nx.tmod ny)) none [] [] []))],.cons rfl rfl .nil,.nil,?_,?_⟩
  ·exact .cons rfl rfl .nil
  have hN:=NewO.add hk hou (show (AObj.cells (lC (.mk k 1 (wrapI (nx.tmod ny)) none [] [] []))).ids isO by simp[lC,bC,kC])
  refine zA ?_
  refine AFn.fin' rfl (WkF.refl _) (by simp) hN.ok ?_
  rw[hA]
  exact⟨.mk k 1 (wrapI (nx.tmod ny)) none [] [] [],rfl,rfl,Der.node (u:=.mk k 1 (wrapI (nx.tmod ny)) none [] [] []) (fun _ _ h=>h) hN (fun p hp=>by simp[tailO,bO,aO,objss]at hp)⟩
 ·repeat' first|refine zN ?_|((with_reducible refine oj ?_);first|refine zix ?_|refine zow rfl rfl hi ?_|refine zow rfl rfl hx ?_|refine zow rfl rfl hy ?_)
  refine ACode.drawX tabOk 19 [(3,.one (.sl 1 (kC [.mk jx 1 nx nbx bx kx ax,.mk jy 1 ny nby by' ky ay]))),(4,.one (.box [.ptr (.o jx) 0])),(8,.one (int nx)),(12,.one (.sl 1 (kC [.mk jx 1 nx nbx bx kx ax,.mk jy 1 ny nby by' ky ay]))),(13,.one (.box [.ptr (.o jy) 0])),(17,.one (int ny))] follows (by kernel_rfl) rfl rfl rfl rfl ?_ ?_
  ·refine .step rfl (zHP (zLD rfl rfl hi rfl)) ?_
   refine .step rfl (zHP (zIA rfl rfl rfl (by decide) rfl)) ?_
   refine .step rfl (zHP (zLD rfl rfl hx rfl)) ?_
   refine .step rfl (zHP (zLD rfl rfl hi rfl)) ?_
   refine .step rfl (zHP (zIA rfl rfl rfl (by decide) rfl)) ?_
   exact .step rfl (zHP (zLD rfl rfl hy rfl)) .nil
  repeat' first|refine zN ?_|((with_reducible refine oj ?_);first|refine zix ?_|refine zow rfl rfl hi ?_|refine zow rfl rfl hx ?_|refine zow rfl rfl hy ?_)
  refine ACode.condS rfl (fun hB=>?_) (fun hB=>?_)
  ·have hB':nx < ny:=by simpa using hB
   have hA:X=some (flagT true):=by rw[hA];simp[hB']
   repeat ((fail_if_success ((with_reducible refine oj ?_);refine AOps.atDst 2 rfl ?_));first|refine zO ?_)
   refine AOps.wkObj (.l 0) rfl (cs':=lC (.mk 0 6 (1) none [] [] [])) (fun w C xs h=>?_) ?_
   ·exact (show WkL _ _ from .cons (.refl _) (.cons (.refl _) (.cons (.nilS 1) (.cons (.nilS 1) (.cons (.nilS 2) .nil))))) w C xs h
   refine AOps.cedes [0] rfl (by decide) hou fun k hk=>⟨[(113,.one (.ptr (.o k) 0))],[],[.cells (lC (.mk k 6 (1) none [] [] []))],.cons rfl rfl .nil,.nil,?_,?_⟩
   ·exact .cons rfl rfl .nil
   have hN:=NewO.add hk hou (show (AObj.cells (lC (.mk k 6 (1) none [] [] []))).ids isO by simp[lC,bC,kC])
   refine zA ?_
   refine AFn.fin' rfl (WkF.refl _) (by simp) hN.ok ?_
   rw[hA]
   exact⟨.mk k 6 (1) none [] [] [],rfl,rfl,Der.node (u:=.mk k 6 (1) none [] [] []) (fun _ _ h=>h) hN (fun p hp=>by simp[tailO,bO,aO,objss]at hp)⟩
  ·have hB':¬nx < ny:=by simpa using hB
   have hA:X=some (flagT false):=by rw[hA];simp[hB']
   repeat ((fail_if_success ((with_reducible refine oj ?_);refine AOps.atDst 2 rfl ?_));first|refine zO ?_)
   refine AOps.wkObj (.l 0) rfl (cs':=lC (.mk 0 6 (0) none [] [] [])) (fun w C xs h=>?_) ?_
   ·exact (show WkL _ _ from .cons (.refl _) (.cons (.refl _) (.cons (.nilS 1) (.cons (.nilS 1) (.cons (.nilS 2) .nil))))) w C xs h
   refine AOps.cedes [0] rfl (by decide) hou fun k hk=>⟨[(113,.one (.ptr (.o k) 0))],[],[.cells (lC (.mk k 6 (0) none [] [] []))],.cons rfl rfl .nil,.nil,?_,?_⟩
   ·exact .cons rfl rfl .nil
   have hN:=NewO.add hk hou (show (AObj.cells (lC (.mk k 6 (0) none [] [] []))).ids isO by simp[lC,bC,kC])
   refine zA ?_
   refine AFn.fin' rfl (WkF.refl _) (by simp) hN.ok ?_
   rw[hA]
   exact⟨.mk k 6 (0) none [] [] [],rfl,rfl,Der.node (u:=.mk k 6 (0) none [] [] []) (fun _ _ h=>h) hN (fun p hp=>by simp[tailO,bO,aO,objss]at hp)⟩
 ·repeat' first|refine zN ?_|((with_reducible refine oj ?_);first|refine zix ?_|refine zow rfl rfl hi ?_|refine zow rfl rfl hx ?_|refine zow rfl rfl hy ?_)
  refine ACode.drawX tabOk 19 [(3,.one (.sl 1 (kC [.mk jx 1 nx nbx bx kx ax,.mk jy 1 ny nby by' ky ay]))),(4,.one (.box [.ptr (.o jx) 0])),(8,.one (int nx)),(12,.one (.sl 1 (kC [.mk jx 1 nx nbx bx kx ax,.mk jy 1 ny nby by' ky ay]))),(13,.one (.box [.ptr (.o jy) 0])),(17,.one (int ny))] follows (by kernel_rfl) rfl rfl rfl rfl ?_ ?_
  ·refine .step rfl (zHP (zLD rfl rfl hi rfl)) ?_
   refine .step rfl (zHP (zIA rfl rfl rfl (by decide) rfl)) ?_
   refine .step rfl (zHP (zLD rfl rfl hx rfl)) ?_
   refine .step rfl (zHP (zLD rfl rfl hi rfl)) ?_
   refine .step rfl (zHP (zIA rfl rfl rfl (by decide) rfl)) ?_
   exact .step rfl (zHP (zLD rfl rfl hy rfl)) .nil
  repeat' first|refine zN ?_|((with_reducible refine oj ?_);first|refine zix ?_|refine zow rfl rfl hi ?_|refine zow rfl rfl hx ?_|refine zow rfl rfl hy ?_)
  refine ACode.condS rfl (fun hB=>?_) (fun hB=>?_)
  ·have hB':nx=ny:=by simpa using hB
   have hA:X=some (flagT true):=by rw[hA];simp[hB']
   repeat ((fail_if_success ((with_reducible refine oj ?_);refine AOps.atDst 2 rfl ?_));first|refine zO ?_)
   refine AOps.wkObj (.l 0) rfl (cs':=lC (.mk 0 6 (1) none [] [] [])) (fun w C xs h=>?_) ?_
   ·exact (show WkL _ _ from .cons (.refl _) (.cons (.refl _) (.cons (.nilS 1) (.cons (.nilS 1) (.cons (.nilS 2) .nil))))) w C xs h
   refine AOps.cedes [0] rfl (by decide) hou fun k hk=>⟨[(113,.one (.ptr (.o k) 0))],[],[.cells (lC (.mk k 6 (1) none [] [] []))],.cons rfl rfl .nil,.nil,?_,?_⟩
   ·exact .cons rfl rfl .nil
   have hN:=NewO.add hk hou (show (AObj.cells (lC (.mk k 6 (1) none [] [] []))).ids isO by simp[lC,bC,kC])
   refine zA ?_
   refine AFn.fin' rfl (WkF.refl _) (by simp) hN.ok ?_
   rw[hA]
   exact⟨.mk k 6 (1) none [] [] [],rfl,rfl,Der.node (u:=.mk k 6 (1) none [] [] []) (fun _ _ h=>h) hN (fun p hp=>by simp[tailO,bO,aO,objss]at hp)⟩
  ·have hB':¬nx=ny:=by simpa using hB
   have hA:X=some (flagT false):=by rw[hA];simp[hB',beq_eq_false_iff_ne.2 hB']
   repeat ((fail_if_success ((with_reducible refine oj ?_);refine AOps.atDst 2 rfl ?_));first|refine zO ?_)
   refine AOps.wkObj (.l 0) rfl (cs':=lC (.mk 0 6 (0) none [] [] [])) (fun w C xs h=>?_) ?_
   ·exact (show WkL _ _ from .cons (.refl _) (.cons (.refl _) (.cons (.nilS 1) (.cons (.nilS 1) (.cons (.nilS 2) .nil))))) w C xs h
   refine AOps.cedes [0] rfl (by decide) hou fun k hk=>⟨[(113,.one (.ptr (.o k) 0))],[],[.cells (lC (.mk k 6 (0) none [] [] []))],.cons rfl rfl .nil,.nil,?_,?_⟩
   ·exact .cons rfl rfl .nil
   have hN:=NewO.add hk hou (show (AObj.cells (lC (.mk k 6 (0) none [] [] []))).ids isO by simp[lC,bC,kC])
   refine zA ?_
   refine AFn.fin' rfl (WkF.refl _) (by simp) hN.ok ?_
   rw[hA]
   exact⟨.mk k 6 (0) none [] [] [],rfl,rfl,Der.node (u:=.mk k 6 (0) none [] [] []) (fun _ _ h=>h) hN (fun p hp=>by simp[tailO,bO,aO,objss]at hp)⟩
 ·repeat' first|refine zN ?_|((with_reducible refine oj ?_);first|refine zix ?_|refine zow rfl rfl hi ?_|refine zow rfl rfl hx ?_|refine zow rfl rfl hy ?_)|(with_reducible refine oj ?_;refine AOps.splitS rfl rfl rfl rfl (fun hb=>?_) (fun hb=>?_))|(with_reducible refine ok ?_;first|refine ACode.condS rfl (fun hb=>?_) (fun hb=>?_)|refine ACode.cond rfl (fun hb=>?_) (fun hb=>?_))
  all_goals first
   |(exfalso;simp at *;omega)
   |skip
  refine ACode.drawX tabOk 19 [(3,.one (.sl 1 (kC [.mk jx 1 nx nbx bx kx ax,.mk jy 1 ny nby by' ky ay]))),(4,.one (.box [.ptr (.o jx) 0])),(8,.one (int nx)),(12,.one (.sl 1 (kC [.mk jx 1 nx nbx bx kx ax,.mk jy 1 ny nby by' ky ay]))),(13,.one (.box [.ptr (.o jy) 0])),(17,.one (int ny))] follows (by kernel_rfl) rfl rfl rfl rfl ?_ ?_
  ·refine .step rfl (zHP (zLD rfl rfl hi rfl)) ?_
   refine .step rfl (zHP (zIA rfl rfl rfl (by decide) rfl)) ?_
   refine .step rfl (zHP (zLD rfl rfl hx rfl)) ?_
   refine .step rfl (zHP (zLD rfl rfl hi rfl)) ?_
   refine .step rfl (zHP (zIA rfl rfl rfl (by decide) rfl)) ?_
   exact .step rfl (zHP (zLD rfl rfl hy rfl)) .nil
  repeat' ((fail_if_success ((with_reducible refine oj ?_);refine AOps.atDst 104 rfl ?_));first|refine zO ?_|((with_reducible refine oj ?_);first|refine zix ?_|refine zow rfl rfl hi ?_|refine zow rfl rfl hx ?_|refine zow rfl rfl hy ?_)|(with_reducible refine oj ?_;refine AOps.splitS rfl rfl rfl rfl (fun hb=>?_) (fun hb=>?_))|(with_reducible refine ok ?_;first|refine ACode.condS rfl (fun hb=>?_) (fun hb=>?_)|refine ACode.cond rfl (fun hb=>?_) (fun hb=>?_)))
  all_goals first
   |(exfalso;simp at *;omega)
   |skip
  have hA:X=some (wordT (wrapI 0)):=by rw[hA,if_neg (by omega),if_neg (by omega),if_neg (by omega),if_neg (by omega),if_neg (by omega),if_neg (by omega),if_neg (by omega)]
  repeat ((fail_if_success ((with_reducible refine oj ?_);refine AOps.atDst 104 rfl ?_));first|refine zO ?_|((with_reducible refine oj ?_);first|refine zix ?_|refine zow rfl rfl hi ?_|refine zow rfl rfl hx ?_|refine zow rfl rfl hy ?_))
  refine zca hΓ (Q70 (0) (by omega) (by omega)) hou ?_
  repeat ((fail_if_success ((with_reducible refine oj ?_);refine AOps.atDst 2 rfl ?_));first|refine zO ?_)
  refine AOps.wkObj (.l 0) rfl (cs':=lC (.mk 0 1 (wrapI (0)) none [] [] [])) (fun w C xs h=>?_) ?_
  ·exact (show WkL _ _ from .cons (.refl _) (.cons (.refl _) (.cons (.nilS 1) (.cons (.nilS 1) (.cons (.nilS 2) .nil))))) w C xs h
  refine AOps.cedes [0] rfl (by decide) hou fun k hk=>⟨[(106,.one (.ptr (.o k) 0))],[],[.cells (lC (.mk k 1 (wrapI (0)) none [] [] []))],.cons rfl rfl .nil,.nil,?_,?_⟩
  ·exact .cons rfl rfl .nil
  have hN:=NewO.add hk hou (show (AObj.cells (lC (.mk k 1 (wrapI (0)) none [] [] []))).ids isO by simp[lC,bC,kC])
  refine zA ?_
  refine AFn.fin' rfl (WkF.refl _) (by simp) hN.ok ?_
  rw[hA]
  exact⟨.mk k 1 (wrapI (0)) none [] [] [],rfl,rfl,Der.node (u:=.mk k 1 (wrapI (0)) none [] [] []) (fun _ _ h=>h) hN (fun p hp=>by simp[tailO,bO,aO,objss]at hp)⟩
end Go.Proofs.YtpaonemmbhbgoaaGreatDoor
namespace Go.CoreX
mutual
theorem Q49:∀t:Tr,okT t->allT pOk t
 |.mk o n b k a,h=>⟨⟨h.1,by simpa using h.2.1,h.2.2.1,h.2.2.2.1.1,h.2.2.2.1.2⟩,Qhs k h.2.2.2.2⟩
theorem Qhs:∀l:List Tr,okTs l->allTs pOk l
 |[],_=>trivial
 |t::l,h=>⟨Q49 t h.1,Qhs l h.2⟩
end
mutual
theorem Ql4:∀t:Tr,allT pOk t->okT t
 |.mk o n b k a,h=>⟨h.1.b,by simpa using h.1.k,h.1.a,⟨h.1.ab,h.1.s⟩,Qhp k h.2⟩
theorem Qhp:∀l:List Tr,allTs pOk l->okTs l
 |[],_=>trivial
 |t::l,h=>⟨Ql4 t h.1,Qhp l h.2⟩
end
end Go.CoreX
namespace Go.Proofs.YtpaonemmbhbgoaaGreatDoor
open Go Go.Abs Go.CoreX
theorem Q5f{T:Tr}(h:allT pOk T)(hl:cntN T<=1048576):okB (listT [] T):=Qjf (by have:=Q1o T [];simp at this;omega) (Q6t (Q0s _) (by rw[Q0b];exact h))
end Go.Proofs.YtpaonemmbhbgoaaGreatDoor
namespace Go.CoreX
mutual
def putsL (f:Nat->Option LTr):LTr->LTr
 |.mk i o n nb b ks a=>match f i with
  |some u=>u
  |none=>.mk i o n nb b (Q4o f ks) a
def Q4o (f:Nat->Option LTr):List LTr->List LTr
 |[]=>[]
 |t::l=>putsL f t::Q4o f l
end
theorem Qcb{f:Nat->Option LTr}(hf:∀k u,f k=some u->u.id=k):∀t:LTr,(putsL f t).id=t.id
 |.mk i o n nb b ks a=>by
  simp only[putsL]
  split
  ·rename_i u hu;exact hf i u hu
  ·rfl
end Go.CoreX
namespace Go.Proofs.YtpaonemmbhbgoaaGreatDoor
open Go Go.Abs Go.CoreX
variable {Γ:List (Nat×List AC)}
theorem Qmh(hΓ:∀g cs,(g,cs)∈Γ->idsL isO cs)(T:Tr)(hT:okT T)(hl:cntN T<=1048576)(ou:Outer):AFn Tryz.prog Γ 131 [.one (.box (cTr T))] ou (GrowQ (listT [] T) ou):=by
 have hll:(listT [] T).length<=1048576:=by have:=Q1o T [];simp at this;omega
 have hli:=Qgt hΓ T hT hll
 refine AFn.walk 6 tabOk Tryz.func131 rfl (by kernel_rfl) rfl rfl fun hou=>?_
 refine zA ?_
 refine zca hΓ hli hou ?_
 refine AOps.call1 hΓ rfl rfl rfl rfl rfl rfl rfl (by simp) hou (Qop hΓ _ (Q5f (Q49 T hT) hl).eo (Q0s T).k (Q0s T) ou) fun r ou' hq hids hou'=>?_
 obtain⟨t,rfl,h⟩:=hq
 refine zA ?_
 exact AFn.fin' rfl (WkF.refl _) (by simp) hou' ⟨t,rfl,h⟩
theorem Qhm{f:Nat->Option LTr}(hf:∀k u,f k=some u->u.id=k):∀l:List LTr,kC (Q4o f l)=kC l
 |[]=>rfl
 |t::l=>by
  have:=Qhm hf l
  simp only[kC,Q4o,List.map_cons,Qcb hf]at this ⊢
  rw[this]
mutual
theorem Qja{f:Nat->Option LTr}:∀t:LTr,(∀k∈keys (objs t),f k=none)->putsL f t=t
 |.mk i o n nb b ks a,h=>by
  simp only[objs,keys,List.cons_append,List.map_cons,List.map_append,List.mem_cons,List.mem_append]at h
  simp only[putsL,h i (.inl rfl)]
  rw[Q5s ks fun k hk=>h k (.inr (.inr hk))]
theorem Q5s{f:Nat->Option LTr}:∀l:List LTr,(∀k∈keys (objss l),f k=none)->Q4o f l=l
 |[],_=>rfl
 |t::l,h=>by
  simp only[objss,keys,List.map_append,List.mem_append]at h
  simp only[Q4o]
  rw[Qja t fun k hk=>h k (.inl hk),Q5s l fun k hk=>h k (.inr hk)]
end
theorem Qhn{nb:Nb}{b:List Int}(h:nb=none):bO nb b=[]:=by subst h;rfl
theorem Q89:∀{a:List LAlt},(∀x∈a,x.nb=none)->aO a=[]
 |[],_=>rfl
 |x::a,h=>by
  rw[show aO (x::a)=bO x.nb x.binds++aO a from rfl,Qhn (h x (by simp)),Q89 fun y hy=>h y (by simp[hy])];rfl
mutual
theorem Q88{f:Nat->Option LTr}(hf:∀k u,f k=some u->u.id=k):∀t:LTr,Q3o t->∀p∈objs (putsL f t),(∃k u,k∈keys (objs t)/\f k=some u/\p∈objs u)∨(p∈objs t/\f p.1=none)
 |.mk i o n nb b ks a,hpl,p,hp=>by
  simp only[putsL]at hp
  cases hfi:f i with
  |some u=>
   rw[hfi]at hp
   exact .inl ⟨i,u,by simp[objs,keys],hfi,hp⟩
  |none=>
   rw[hfi]at hp
   simp only[objs,Qhm hf,Qhn hpl.1,Q89 hpl.2.1,List.append_nil,List.cons_append,List.nil_append,List.mem_cons]at hp ⊢
   rcases hp with rfl|hp
   ·exact .inr ⟨.inl rfl,hfi⟩
   ·rcases Qdx hf ks hpl.2.2 p hp with ⟨k,u,h1,h2,h3⟩|⟨h1,h2⟩
    ·exact .inl ⟨k,u,by simp[keys]at h1 ⊢;exact .inr h1,h2,h3⟩
    ·exact .inr ⟨.inr h1,h2⟩
theorem Qdx{f:Nat->Option LTr}(hf:∀k u,f k=some u->u.id=k):∀l:List LTr,Q77 l->∀p∈objss (Q4o f l),(∃k u,k∈keys (objss l)/\f k=some u/\p∈objs u)∨(p∈objss l/\f p.1=none)
 |[],_,p,hp=>by simp[Q4o,objss]at hp
 |t::l,hpl,p,hp=>by
  simp only[Q4o,objss,List.mem_append]at hp ⊢
  rcases hp with hp|hp
  ·rcases Q88 hf t hpl.1 p hp with ⟨k,u,h1,h2,h3⟩|⟨h1,h2⟩
   ·exact .inl ⟨k,u,by rw[Q21];exact List.mem_append.2 (.inl h1),h2,h3⟩
   ·exact .inr ⟨.inl h1,h2⟩
  ·rcases Qdx hf l hpl.2 p hp with ⟨k,u,h1,h2,h3⟩|⟨h1,h2⟩
   ·exact .inl ⟨k,u,by rw[Q21];exact List.mem_append.2 (.inr h1),h2,h3⟩
   ·exact .inr ⟨.inr h1,h2⟩
end
mutual
theorem Q3z(q:Int):∀t:LTr,∀s∈usesL q t,s.id∈keys (objs t)
 |.mk i o n nb b ks a,s,hs=>by
  simp only[usesL]at hs
  split at hs
  ·split at hs
   ·simp at hs;subst hs;exact Qb8 _
   ·simp at hs
  ·have:=Q3y q ks s hs
   rw[Q0d,tailO]
   simp only[keys,List.map_cons,List.map_append]at this ⊢
   simp[this]
theorem Q3y(q:Int):∀l:List LTr,∀s∈Q1a q l,s.id∈keys (objss l)
 |[],s,hs=>by simp[Q1a]at hs
 |t::l,s,hs=>by
  simp only[Q1a,List.mem_append]at hs
  simp only[objss,Q21,List.mem_append]
  rcases hs with hs|hs
  ·exact .inl (Q3z q t s hs)
  ·exact .inr (Q3y q l s hs)
end
mutual
theorem Qky{f:Nat->Option LTr}{q:Int}{V:Tr}(hV:∀k u,f k=some u->erT u=V):∀t:LTr,(keys (objs t)).Nodup->(∀k∈keys (objs t),f k≠none↔k∈(usesL q t).map LTr.id)->erT (putsL f t)=subT q V (erT t)
 |.mk i o n nb b ks a,hn,hf=>by
  have hii:i∈keys (objs (.mk i o n nb b ks a)):=Qb8 (.mk i o n nb b ks a)
  have hfi:=hf i hii
  have hself:i∉keys (objss ks):=fun h=>by
   have:=Q8u hn
   refine this ?_
   simp only[tailO,keys,List.map_append,List.mem_append]
   exact .inr h
  have hkk:∀k∈keys (objss ks),k∈keys (objs (.mk i o n nb b ks a)):=fun k hk=>by
   rw[Q0d,tailO]
   simp only[keys,List.map_cons,List.map_append]at hk ⊢
   simp[hk]
  have hnk:(keys (objss ks)).Nodup:=by
   rw[Q0d]at hn
   simp only[tailO,keys,List.map_cons,List.map_append]at hn
   exact (List.nodup_append.1 (List.nodup_cons.1 hn).2).2.1
  simp only[usesL]at hfi hf
  by_cases h0:o=0
  ·rw[if_pos h0]at hfi
   by_cases h1:n=q
   ·rw[if_pos h1]at hfi
    have:f i≠none:=hfi.2 (by simp[LTr.id])
    cases hu:f i with
    |none=>exact absurd hu this
    |some u=>
     simp only[putsL,hu,erT,subT,if_pos h0,if_pos h1]
     exact hV i u hu
   ·rw[if_neg h1]at hfi
    have hno:f i=none:=by
     cases hu:f i with
     |none=>rfl
     |some u=>have:=hfi.1 (by rw[hu];simp);simp at this
    have hks:Q4o f ks=ks:=Q5s ks fun k hk=>by
     have:=hf k (hkk k hk)
     rw[if_pos h0,if_neg h1]at this
     cases hu:f k with
     |none=>rfl
     |some u=>have:=this.1 (by rw[hu];simp);simp at this
    simp only[putsL,hno,hks,erT,subT,if_pos h0,if_neg h1]
  ·rw[if_neg h0]at hfi
   have hno:f i=none:=by
    cases hu:f i with
    |none=>rfl
    |some u=>
     have:=hfi.1 (by rw[hu];simp)
     obtain⟨s,hs,he⟩:=List.mem_map.1 this
     exact absurd (he▸Q3y q ks s hs) hself
   simp only[putsL,hno,erT,subT,if_neg h0]
   congr 1
   refine Qhk hV ks hnk fun k hk=>?_
   have:=hf k (hkk k hk)
   rwa [if_neg h0]at this
theorem Qhk{f:Nat->Option LTr}{q:Int}{V:Tr}(hV:∀k u,f k=some u->erT u=V):∀l:List LTr,(keys (objss l)).Nodup->(∀k∈keys (objss l),f k≠none↔k∈(Q1a q l).map LTr.id)->erTs (Q4o f l)=subTs q V (erTs l)
 | [], _, _ => rfl
 |t::l,hn,hf=>by
  simp only[objss,Q21,List.nodup_append]at hn
  simp only[objss,Q21,List.mem_append,Q1a,List.map_append]at hf
  simp only[Q4o,erTs,subTs]
  have h1:=Qky hV t hn.1 fun k hk=>by
   rw[hf k (.inl hk)]
   constructor
   ·rintro (h|h)
    ·exact h
    ·obtain⟨s,hs,rfl⟩:=List.mem_map.1 h
     exact absurd rfl (hn.2.2 _ hk _ (Q3y q l s hs))
   ·exact .inl
  have h2:=Qhk hV l hn.2.1 fun k hk=>by
   rw[hf k (.inr hk)]
   constructor
   ·rintro (h|h)
    ·obtain⟨s,hs,rfl⟩:=List.mem_map.1 h
     exact absurd rfl (hn.2.2 _ (Q3z q t s hs) _ hk)
    ·exact h
   ·exact .inr
  rw[h1,h2]
end
mutual
theorem Qah(q:Int):∀t:LTr,(keys (objs t)).Nodup->((usesL q t).map LTr.id).Nodup
 |.mk i o n nb b ks a,hn=>by
  simp only[usesL]
  split
  ·split <;> simp
  ·refine Q8m q ks ?_
   rw[Q0d]at hn
   simp only[tailO,keys,List.map_cons,List.map_append]at hn
   exact (List.nodup_append.1 (List.nodup_cons.1 hn).2).2.1
theorem Q8m(q:Int):∀l:List LTr,(keys (objss l)).Nodup->((Q1a q l).map LTr.id).Nodup
 |[],_=>by simp[Q1a]
 |t::l,hn=>by
  simp only[objss,Q21,List.nodup_append]at hn
  simp only[Q1a,List.map_append,List.nodup_append]
  refine⟨Qah q t hn.1,Q8m q l hn.2.1,fun x hx y hy=>?_⟩
  obtain⟨s,hs,rfl⟩:=List.mem_map.1 hx
  obtain⟨s',hs',rfl⟩:=List.mem_map.1 hy
  exact hn.2.2 _ (Q3z q t s hs) _ (Q3y q l s' hs')
end
def setO (ou:Outer)(k:Nat)(o:AObj):Outer:=fun j=>bif Nat.beq j k then some o else ou j
theorem Qdp(ou:Outer)(k:Nat)(o:AObj):setO ou k o k=some o:=by unfold setO;simp
theorem Q50{ou:Outer}{j k:Nat}{o:AObj}(h:j≠k):setO ou k o j=ou j:=by unfold setO;rw[Q0a h];rfl
theorem Qfr{ou:Outer}{k:Nat}{o:AObj}(h:OuOk ou)(ho:o.ids isO):OuOk (setO ou k o):=fun j p hj=>by
 by_cases e:j=k
 ·subst e;rw[Qdp]at hj;cases hj;exact ho
 ·rw[Q50 e]at hj;exact h j p hj
def Q31 (k:Nat):LTr->LTr
 |.mk _ o n nb b ks a=>.mk k o n nb b ks a
theorem Q2h(k:Nat)(t:LTr):(Q31 k t).id=k:=by cases t;rfl
theorem Q63(k:Nat)(t:LTr):erT (Q31 k t)=erT t:=by cases t;rfl
theorem Qk6(k:Nat)(t:LTr):lC (Q31 k t)=lC t:=by cases t;rfl
theorem Q3a(k:Nat)(t:LTr):tailO (Q31 k t)=tailO t:=by cases t;rfl
theorem Qlm(t:LTr):(lC t).length=5:=by cases t;rfl
theorem Qee(t:LTr):(AObj.cells (lC t)).ids isO:=by
 cases t with
 |mk i o n nb b ks a=>exact Q8e o n nb b ks a
theorem Q71{ou:Outer}{k:Nat}{t:LTr}(h:Owns ou (tailO t))(hk:k∉keys (tailO t)):Owns (setO ou k (.cells (lC t))) (objs (Q31 k t)):=fun p hp=>by
 rw[Q0d,Q2h,Qk6,Q3a]at hp
 rcases List.mem_cons.1 hp with rfl|hp
 ·exact Qdp _ _ _
 ·rw[Q50 (show p.1≠k from fun e=>hk (e▸Q0q hp))];exact h p hp
theorem Q8a{ou:Outer}{t:LTr}(h:Owns ou (objs t)):Owns ou (tailO t):=fun p hp=>h p (by rw[Q0d];exact List.mem_cons_of_mem _ hp)
def updF (f:Nat->Option LTr)(k:Nat)(u:LTr):Nat->Option LTr:=fun j=>if j=k then some u else f j
structure CopyI (ou1 ov:Outer)(L:List LTr)(V:Tr)(f:Nat->Option LTr):Prop where
 dom:∀k,f k≠none↔k∈L.map LTr.id
 u:∀k u,f k=some u->u.id=k/\erT u=V/\Owns ov (objs u)/\∀p∈tailO u,ou1 p.1=none
 old:∀k o,ou1 k=some o->f k=none->ov k=some o
 ok:OuOk ov
theorem CopyI.nil{ou1:Outer}{V:Tr}(h:OuOk ou1):CopyI ou1 ou1 [] V (fun _=>none):=⟨by simp,by simp,fun k o hk _=>hk,h⟩
theorem CopyI.step{ou1 ov ow:Outer}{L:List LTr}{V:Tr}{f:Nat->Option LTr}(h:CopyI ou1 ov L V f){x c:LTr}{o:AObj}(hx:ou1 x.id=some o)(hxL:x.id∉L.map LTr.id)(hV:erT c=V)(hc:Owns ow (objs c))(hnew:∀k∈keys (objs c),ov k=none)(hold:∀k o,ov k=some o->ow k=some o)(hok:OuOk ow):
  CopyI ou1 (setO ow x.id (.cells (lC c))) (L++[x]) V (updF f x.id (Q31 x.id c)):=by
 have hfx:f x.id=none:=by
  cases hu:f x.id with
  |none=>rfl
  |some u=>exact absurd ((h.dom x.id).1 (by rw[hu];simp)) hxL
 have hvx:=h.old _ _ hx hfx
 have hck:∀p∈objs c,ou1 p.1=none:=fun p hp=>by
  have h1:=hnew p.1 (Q0q hp)
  cases ho:ou1 p.1 with
  |none=>rfl
  |some o'=>
   by_cases hf:f p.1=none
   ·rw[h.old _ _ ho hf]at h1;cases h1
   ·obtain⟨u,hu⟩:=Option.ne_none_iff_exists'.1 hf
    obtain⟨e1,_,e3,_⟩:=h.u _ _ hu
    have:=e3 (u.id,.cells (lC u)) (by rw[Q0d];simp)
    rw[e1,h1]at this;cases this
 refine⟨fun k=>?_,fun k u hu=>?_,fun k o' hk hf=>?_,Qfr hok (Qee c)⟩
 ·unfold updF
  by_cases e:k=x.id
  ·subst e;simp
  ·rw[if_neg e,h.dom k];simp[e]
 ·unfold updF at hu
  by_cases e:k=x.id
  ·rw[if_pos e]at hu
   cases hu
   refine⟨by rw[Q2h,e],by rw[Q63,hV],Q71 (Q8a hc) fun hm=>?_,fun p hp=>?_⟩
   ·obtain⟨o'',hq⟩:=Q1r hm
    have:=hck (x.id,o'') (by rw[Q0d];exact List.mem_cons_of_mem _ hq)
    rw[hx]at this;cases this
   ·rw[Q3a]at hp
    exact hck p (by rw[Q0d];exact List.mem_cons_of_mem _ hp)
  ·rw[if_neg e]at hu
   obtain⟨e1,e2,e3,e4⟩:=h.u k u hu
   refine⟨e1,e2,fun p hp=>?_,e4⟩
   have hpx:p.1≠x.id:=by
    rw[Q0d]at hp
    rcases List.mem_cons.1 hp with rfl|hp
    ·simp only;rw[e1];exact e
    ·intro e5
     have:=e4 p hp
     rw[e5,hx]at this;cases this
   rw[Q50 hpx]
   exact hold _ _ (e3 p hp)
 ·unfold updF at hf
  by_cases e:k=x.id
  ·rw[if_pos e]at hf;cases hf
  ·rw[if_neg e]at hf
   rw[Q50 e]
   exact hold _ _ (h.old k o' hk hf)
theorem Qhl{f:Nat->Option LTr}{q:Int}{d:LTr}{V:Tr}{ov:Outer}{i:Nat}(hn:(keys (objs d)).Nodup)(hp:Q3o d)(hi:i∉keys (objs d))(hdom:∀k,f k≠none↔k∈(usesL q d).map LTr.id)
  (hu : ∀ k u, f k = some u -> u.id = k /\ erT u = V /\ Owns ov (objs u) /\ i ∉ keys (tailO u)) (hold : ∀ p ∈ objs d, f p.1 = none -> ov p.1 = some p.2) :
  erT (putsL f d)=subT q V (erT d)/\Owns ov (objs (putsL f d))/\i∉keys (objs (putsL f d)):=by
 have hf:∀k u,f k=some u->u.id=k:=fun k u h=>(hu k u h).1
 refine⟨Qky (fun k u h=>(hu k u h).2.1) d hn fun k _=>hdom k,fun p hp'=>?_,fun hm=>?_⟩
 ·rcases Q88 hf d hp p hp' with ⟨k,u,_,h2,h3⟩|⟨h1,h2⟩
  ·exact (hu k u h2).2.2.1 p h3
  ·exact hold p h1 h2
 ·obtain⟨o,ho⟩:=Q1r hm
  rcases Q88 hf d hp _ ho with ⟨k,u,h1,h2,h3⟩|⟨h1,h2⟩
  ·rw[Q0d]at h3
   rcases List.mem_cons.1 h3 with h3|h3
   ·have:i=u.id:=by injection h3
    rw[this,(hu k u h2).1]at hi
    exact hi h1
   ·exact (hu k u h2).2.2.2 (Q0q h3)
  ·exact hi (Q0q h1)
theorem Qdy{f:Nat->Option LTr}{d:LTr}(hp:Q3o d)(hf:∀k u,f k=some u->u.id=k):∀k∈keys (objs (putsL f d)),k∈keys (objs d)∨∃k' u,f k'=some u/\k∈keys (tailO u):=fun k hk=>by
 obtain⟨o,ho⟩:=Q1r hk
 rcases Q88 hf d hp _ ho with ⟨k',u,h1,h2,h3⟩|⟨h1,h2⟩
 ·rw[Q0d]at h3
  rcases List.mem_cons.1 h3 with h3|h3
  ·have:k=u.id:=by injection h3
   rw[this,hf k' u h2];exact .inl h1
  ·exact .inr ⟨k',u,h2,Q0q h3⟩
 ·exact .inl (Q0q h1)
def ResW (ou:Outer)(t:LTr)(x:Option Tr)(r:FV)(ou':Outer):Prop:=match x with
 |none=>r=nilP/\OuOk ou'/\∀j o,ou j=some o->ou' j=some o
 |some X=>∃u:LTr,r=.one (.ptr (.o u.id) 0)/\erT u=X/\Owns ou' (objs u)/\t.id∉keys (objs u)/\OuOk ou'/\(∀j o,ou j=some o->j∉keys (tailO t)->ou' j=some o)/\∀k∈keys (objs u),k∈keys (tailO t)∨ou k=none
theorem ResD.w{ou ou':Outer}{t:LTr}{x:Option Tr}{r:FV}(ho:Owns ou (objs t))(hn:(keys (objs t)).Nodup)(h:ResD ou t x r ou'):ResW ou t x r ou':=by
 cases x with
 |none=>exact h
 |some X=>
  obtain⟨u,h1,h2,h3⟩:=h
  refine⟨u,h1,h2,h3.own (Q8a ho),h3.not (Q0f ho) (Q8u hn),h3.ok,fun j o hj _=>h3.old j o hj,fun k hk=>?_⟩
  obtain⟨o,hp⟩:=Q1r hk
  exact (h3.part _ hp).imp (fun h=>Q0q h) (fun h=>h.1)
mutual
theorem Qbv(q:Int):∀t:LTr,∀s∈usesL q t,∀p∈objs s,p∈objs t
 |.mk i o n nb b ks a,s,hs,p,hp=>by
  simp only[usesL]at hs
  split at hs
  ·split at hs
   ·simp at hs;subst hs;exact hp
   ·simp at hs
  ·have:=Qd9 q ks s hs p hp
   rw[Q0d,tailO]
   simp[this]
theorem Qd9(q:Int):∀l:List LTr,∀s∈Q1a q l,∀p∈objs s,p∈objss l
 |[],s,hs,_,_=>by simp[Q1a]at hs
 |t::l,s,hs,p,hp=>by
  simp only[Q1a,List.mem_append]at hs
  simp only[objss,List.mem_append]
  rcases hs with hs|hs
  ·exact .inl (Qbv q t s hs p hp)
  ·exact .inr (Qd9 q l s hs p hp)
end
theorem Qha(t:LTr):(t.id,AObj.cells (lC t))∈objs t:=by rw[Q0d];simp
set_option maxHeartbeats 2000000 in
theorem Qjn(hΓ:∀g cs,(g,cs)∈Γ->idsL isO cs)(rule:Int)(i:Nat)(n q:Int)(v d:LTr)(hpl:Q3o (.mk i 4 n none [q] [v,d] []))(hok:okT (erT (.mk i 4 n none [q] [v,d] [])))(hsh:allT shpL (erT (.mk i 4 n none [q] [v,d] [])))(hc:cntN (erT (.mk i 4 n none [q] [v,d] []))<=1048576)(ou:Outer)
  (ho:Owns ou (objs (.mk i 4 n none [q] [v,d] []))) (hn:(keys (objs (.mk i 4 n none [q] [v,d] []))).Nodup):
  AFn Tryz.prog Γ 107 [.one (int rule),.one (.ptr (.o i) 0)] ou (ResW ou (.mk i 4 n none [q] [v,d] []) (Q5g rule (erT (.mk i 4 n none [q] [v,d] [])))):=by
 have hi:ou i=some (.cells (lC (.mk i 4 n none [q] [v,d] []))):=Q0f ho
 simp only[lC,bC]at hi
 have hvm:v∈(LTr.mk i 4 n none [q] [v,d] []).kids:=by simp[LTr.kids]
 have hdm:d∈(LTr.mk i 4 n none [q] [v,d] []).kids:=by simp[LTr.kids]
 have hvo:=Q1t ho hvm
 have hdo:=Q1t ho hdm
 have hvk:=Q3w hok (Q2w hvm)
 have hdk:=Q3w hok (Q2w hdm)
 have hvs:=Q1l hsh (Q2w hvm)
 have hvc:cntN (erT v)<=1048576:=by have:=Q9x (Q2w hvm);omega
 have hdc:cntN (erT d)<=1048576:=by have:=Q9x (Q2w hdm);omega
 have hval:=Q4t hΓ (erT v) hvk hvs
 have hat:=Qgp (Γ:=Γ) (erT v)
 have hus:=Qfj hΓ d hdk hdc q ou hdo
 have hlen:(kC (usesL q d)).length=usesN q (erT d):=by rw[Q1n,Q4u]
 have hul:(usesL q d).length<=1048576:=by have:=Qbx q (erT d);rw[Q4u];omega
 have hni:i∉keys (objs v)/\i∉keys (objs d)/\(keys (objs v)).Nodup/\(keys (objs d)).Nodup/\∀k∈keys (objs v),k∉keys (objs d):=by
  have h1:(i::(keys (objs v)++keys (objs d))).Nodup:=by
   have e1:keys (objs (.mk i 4 n none [q] [v,d] []))=i::(keys (objs v)++keys (objs d)):=by rw[Q0d];simp[tailO,bO,aO,objss,keys,LTr.id]
   rw[←e1];exact hn
  simp only[List.nodup_cons,List.nodup_append,List.mem_append,not_or]at h1
  exact⟨h1.1.1,h1.1.2,h1.2.1,h1.2.2.1,fun k hk hk2=>h1.2.2.2 k hk k hk2 rfl⟩
 obtain⟨X,hX⟩:∃X,X=Q5g rule (erT (.mk i 4 n none [q] [v,d] [])):=⟨_,rfl⟩
 rw[←hX]
 have hL:X=if rule=2/\atomT (erT v)=true then some (subT q (erT v) (erT d))
  else if rule=3/\usesN q (erT d)=0/\valT (erT v)=true then some (erT d)
  else if rule=8/\(erT v).op=4 then some (letT ((erT v).binds.getD 0 0) (kidT (erT v) 0) (letT q (kidT (erT v) 1) (erT d)))
  else if rule=9/\(erT v).op=7/\(erT v).alts.length=1 then some (.mk 7 0 [] [kidT (erT v) 0,letT q (kidT (erT v) 1) (erT d)] (erT v).alts)
  else if rule=11/\(erT v).op=2/\usesN q (erT d)=1 then some (subT q (erT v) (erT d))
  else none:=hX
 clear hX
 refine AFn.walk 161 tabOk Tryz.func107 rfl (by kernel_rfl) rfl rfl fun hou=>?_
 refine zA ?_
 refine ACode.drawX tabOk 13 [(3,.one (.sl 1 (kC [v,d]))),(4,.one (.box [.ptr (.o v.id) 0])),(9,.one (.sl 1 (kC [v,d]))),(10,.one (.box [.ptr (.o d.id) 0]))] follows (by kernel_rfl) rfl rfl rfl rfl ?_ ?_
 ·refine .step rfl (zHP (zLD rfl rfl hi rfl)) ?_
  refine .step rfl (zHP (zIA rfl rfl rfl (by decide) rfl)) ?_
  refine .step rfl (zHP (zLD rfl rfl hi rfl)) ?_
  exact .step rfl (zHP (zIA rfl rfl rfl (by decide) rfl)) .nil
 repeat' first|refine zN ?_|((with_reducible refine oj ?_);first|refine zix ?_|refine zow rfl rfl hi ?_)
 refine AOps.call1 hΓ rfl rfl rfl rfl rfl rfl rfl (by exact⟨trivial,trivial,trivial⟩) hou hus fun r ou' hq _ _=>?_
 obtain⟨rfl,rfl⟩:=hq
 by_cases h2:rule=2
 ·subst h2
  repeat' first|refine zN ?_|((with_reducible refine oj ?_);first|refine zix ?_|refine zow rfl rfl hi ?_)
  refine AOps.callS hΓ hat (Plain.lit _) rfl rfl rfl rfl rfl rfl (Q3m.t1 hvo) ?_
  refine zA ?_
  refine ACode.condS rfl (fun hb=>?_) (fun hb=>?_)
  ·have ha:atomT (erT v)=true:=hb
   rw[if_pos ⟨rfl,ha⟩]at hL
   repeat ((fail_if_success ((with_reducible refine oj ?_);refine AOps.atDst 39 rfl ?_));first|refine zO ?_)
   refine AOps.freezeU (t:=v) 5 hvo rfl ?_
   obtain⟨ou1,hou1⟩:∃ou1,ou1=deadL ou' (keys (objs v)):=⟨_,rfl⟩
   rw[←hou1]
   have hok1:OuOk ou1:=fun m o hm=>by
    rw[hou1]at hm
    unfold deadL at hm
    split at hm
    ·cases hm;trivial
    ·exact hou m o hm
   have hold1:∀j,j∉keys (objs v)->ou1 j=ou' j:=fun j hj=>by rw[hou1];unfold deadL;rw[if_neg hj]
   have hvd:∀k∈keys (objs d),k∉keys (objs v):=fun k hk hk2=>hni.2.2.2.2 k hk2 hk
   refine zA ?_
   refine ACode.loopR hΓ (α:=Nat×Outer×(Nat->Option LTr)) (fun c=>[(41,.one (int c.1)),(40,.one (int (kC (usesL q d)).length)),(39,.one (.sl 1 (kC (usesL q d)))),(6,.one (.ptr (.o d.id) 0)),(5,.one (.box (cTr (erT v))))])
    (fun c=>⟨0,[],c.2.1⟩) (fun m c=>c.1<=(usesL q d).length/\CopyI ou1 c.2.1 ((usesL q d).take c.1) (erT v) c.2.2/\m=(usesL q d).length - c.1) (a0:=(0,ou1,fun _=>none)) (ρ:=fun k=>k) ⟨by omega,CopyI.nil hok1,rfl⟩ (LessR.of rfl ?_ (by simp) .nil rfl rfl hok1) fun m c hc2=>?_
   ·exact FrSub.cons rfl (.ofEq rfl) (FrSub.cons rfl (.ofEq rfl) (FrSub.consP rfl (.ofEq rfl) (by simp) (FrSub.cons rfl (.ofEq rfl) (FrSub.consP rfl (.ofEq rfl) (by simp) .nil))))
   obtain⟨j,ov,f⟩:=c
   obtain⟨hjl,hI,rfl⟩:=hc2
   dsimp only at hjl hI
   have hov:=hI.ok
   refine zA ?_
   refine ACode.cond rfl (fun hb2=>?_) (fun hb2=>?_)
   ·have hlt:j < (usesL q d).length:=by simpa[Q1n]using hb2
    obtain⟨x,hx⟩:=Q00 hlt
    have hxm:=List.mem_of_getElem? hx
    have hxk:=Q3z q d x hxm
    refine zA ?_
    refine zS (zIA rfl rfl rfl (by omega) (Q4q hx)) ?_
    refine zA ?_
    refine AOps.call1 hΓ rfl rfl rfl rfl rfl rfl rfl (by simp) hov (Qmh hΓ (erT v) hvk hvc ov) fun r ow hq _ how=>?_
    obtain⟨c,rfl,her,_,hco,hcn,hcnew,_,hcold⟩:=hq
    rw[Q0b]at her
    have hcc:=Q0f hco
    have hx1:ou1 x.id=some (.cells (lC x)):=by
     rw[hold1 _ (hvd _ hxk)]
     exact hdo _ (Qbv q d x hxm _ (Qha x))
    have hxL:x.id∉((usesL q d).take j).map LTr.id:=by
     have h1:=Qah q d hni.2.2.2.1
     obtain⟨h3,h4⟩:=List.getElem?_eq_some_iff.1 hx
     rw[←List.take_append_drop j (usesL q d),List.drop_eq_getElem_cons h3,h4,List.map_append,List.map_cons,List.nodup_append]at h1
     exact fun hm=>h1.2.2 _ hm _ (by simp) rfl
    have hfx:f x.id=none:=by
     cases hu:f x.id with
     |none=>rfl
     |some u=>exact absurd ((hI.dom x.id).1 (by rw[hu];simp)) hxL
    have hx2:=hcold _ _ (hI.old _ _ hx1 hfx)
    have hI2:=hI.step hx1 hxL her hco hcnew hcold how
    rw[←Q11 hx]at hI2
    cases c with
    |mk kc oc nc nbc bc ksc ac=>
    simp only[lC]at hcc
    refine zA ?_
    refine zS (AStep.loadOwnA tabOk rfl rfl rfl rfl rfl hcc) ?_
    refine zA ?_
    refine AOps.storeOwnA tabOk rfl rfl rfl rfl rfl (by simp[Qlm]) rfl rfl hx2 ?_
    refine zM ?_
    exact cInv ⟨(usesL q d).length - (j+1),(j+1,_,_),fun k=>k,by omega,⟨by omega,hI2,rfl⟩,LessR.of rfl (FrSub.cons rfl (.ofEq rfl) (FrSub.cons rfl (.ofEq rfl) (FrSub.consP rfl (.ofEq rfl) (by simp) (FrSub.cons rfl (.ofEq rfl) (FrSub.consP rfl (.ofEq rfl) (by simp) .nil))))) (by simp) .nil rfl rfl hI2.ok⟩
   ·have hlt:j=(usesL q d).length:=by simp[Q1n]at hb2;omega
    subst hlt
    rw[List.take_length]at hI
    obtain⟨e1,e2,e3⟩:=Qhl (i:=i) hni.2.2.2.1 (Q15 hpl hdm) hni.2.1 hI.dom (fun k u hu=>by
     obtain⟨g1,g2,g3,g4⟩:=hI.u k u hu
     refine⟨g1,g2,g3,fun hm=>?_⟩
     obtain⟨o',ho'⟩:=Q1r hm
     have:=g4 _ ho'
     simp only at this
     rw[hold1 i hni.1,hi]at this
     cases this) (fun p hp hf=>hI.old _ _ (by rw[hold1 _ (hvd _ (Q0q hp))];exact hdo p hp) hf)
    have hid:(putsL f d).id=d.id:=Qcb (fun k u hu=>(hI.u k u hu).1) d
    refine zA ?_
    refine AFn.fin' rfl (WkF.refl _) (by simp) hov ?_
    rw[hL]
    refine⟨putsL f d,by rw[hid],e1,e2,e3,hov,fun k o hk hkt=>?_,fun k hk=>?_⟩
    rotate_left
    ·rcases Qdy (Q15 hpl hdm) (fun k u hu=>(hI.u k u hu).1) k hk with hkd|⟨k',u,hu,hku⟩
     ·obtain⟨o',ho'⟩:=Q1r hkd
      exact .inl (Q0q (Q20 hdm ho'))
     ·obtain⟨o',ho'⟩:=Q1r hku
      have h7:=(hI.u k' u hu).2.2.2 _ ho'
      right
      cases hk7:ou' k with
      |none=>rfl
      |some o7=>
       simp only[hou1]at h7
       unfold deadL at h7
       split at h7
       ·cases h7
       ·rw[hk7]at h7;cases h7
    have hkv:k∉keys (objs v):=fun hm=>by
     obtain⟨o',ho'⟩:=Q1r hm
     exact hkt (Q0q (Q20 hvm ho'))
    have hkd:k∉keys (objs d):=fun hm=>by
     obtain⟨o',ho'⟩:=Q1r hm
     exact hkt (Q0q (Q20 hdm ho'))
    refine hI.old k o (by rw[hold1 k hkv];exact hk) ?_
    cases hu:f k with
    |none=>rfl
    |some u=>
     have:=(hI.dom k).1 (by rw[hu];simp)
     obtain⟨s,hs,rfl⟩:=List.mem_map.1 this
     exact absurd (Q3z q d s hs) hkd
  ·have ha:atomT (erT v)=false:=hb
   rw[if_neg (by rw[ha];simp),if_neg (by simp),if_neg (by simp),if_neg (by simp),if_neg (by simp)]at hL
   refine zA ?_
   exact AFn.fin' rfl (WkF.refl _) (by simp) hou (by rw[hL];exact⟨rfl,hou,fun _ _ h=>h⟩)
 rw[if_neg (fun h=>h2 h.1)]at hL
 by_cases h3:rule=3
 ·subst h3
  repeat' first|refine zN ?_|((with_reducible refine oj ?_);first|refine zix ?_|refine zow rfl rfl hi ?_)
  rw[hlen]
  refine AOps.splitS rfl rfl rfl rfl (fun hb=>?_) (fun hb=>?_)
  ·have h0:usesN q (erT d)=0:=by simpa using hb
   refine zM ?_
   refine AOps.callS hΓ hval (Plain.lit _) rfl rfl rfl rfl rfl rfl (Q3m.t1 hvo) ?_
   refine zA ?_
   refine ACode.condS rfl (fun hb3=>?_) (fun hb3=>?_)
   ·have hv:valT (erT v)=true:=hb3
    rw[if_pos ⟨rfl,h0,hv⟩]at hL
    refine zA ?_
    exact AFn.fin' rfl (WkF.refl _) (by simp) hou (by rw[hL];exact ResD.w ho hn ⟨d,rfl,rfl,Der.refl (fun p hp=>Q20 hdm hp) hou⟩)
   ·have hv:valT (erT v)=false:=hb3
    rw[if_neg (by rw[hv];simp),if_neg (by simp),if_neg (by simp),if_neg (by simp)]at hL
    refine zA ?_
    exact AFn.fin' rfl (WkF.refl _) (by simp) hou (by rw[hL];exact⟨rfl,hou,fun _ _ h=>h⟩)
  ·have h0:¬usesN q (erT d)=0:=by simpa using hb
   rw[if_neg (fun h=>h0 h.2.1),if_neg (by simp),if_neg (by simp),if_neg (by simp)]at hL
   refine zA ?_
   exact AFn.fin' rfl (WkF.refl _) (by simp) hou (by rw[hL];exact⟨rfl,hou,fun _ _ h=>h⟩)
 rw[if_neg (fun h=>h3 h.1)]at hL
 cases v with
 |mk j op2 n2 nb2 b2 ks2 a2=>
 obtain rfl:nb2=none:=(Q15 hpl hvm).1
 have hv:ou' j=some (.cells (lC (.mk j op2 n2 none b2 ks2 a2))):=Q0f hvo
 simp only[lC,bC]at hv
 have hop:(erT (.mk j op2 n2 none b2 ks2 a2)).op=op2:=rfl
 rw[hop]at hL
 by_cases h8:rule=8
 ·subst h8
  repeat' first|refine zN ?_|((with_reducible refine oj ?_);first|refine zix ?_|refine zow rfl rfl hi ?_|refine zow rfl rfl hv ?_)
  refine ACode.condS rfl (fun hb=>?_) (fun hb=>?_)
  ·have h4:op2=4:=by simpa using hb
   subst h4
   rw[if_pos ⟨rfl,rfl⟩]at hL
   obtain⟨q2,y0,y1,hb2,hk2,_⟩:=Qfo (o:=4) (n:=n2) (b:=b2) (k:=erTs ks2) (a:=a2.map LAlt.er) hvs rfl
   obtain⟨k0,k1,rfl⟩:∃k0 k1,ks2=[k0,k1]:=by
    rw[Q0t]at hk2
    match ks2,hk2 with
    |[k0,k1],_=>exact⟨k0,k1,rfl⟩
   subst hb2
   have hk0m:k0∈(LTr.mk j 4 n2 none [q2] [k0,k1] a2).kids:=by simp[LTr.kids]
   have hk1m:k1∈(LTr.mk j 4 n2 none [q2] [k0,k1] a2).kids:=by simp[LTr.kids]
   have hL:X=some (letT q2 (erT k0) (letT q (erT k1) (erT d))):=hL
   refine zA ?_
   refine ACode.drawC tabOk 22 [20,21] [(3,.one (.sl 1 ([q2].map cI))),(4,.one (.box [int q2])),(9,.one (.sl 1 (kC [k0,k1]))),(10,.one (.box [.ptr (.o k0.id) 0])),(16,.one (.sl 1 (kC [k0,k1]))),(17,.one (.box [.ptr (.o k1.id) 0]))] (fun vs σ=>match vs with
     |[]=>σ=⟨0,[],ou'⟩
     |[a]=>∃(k:Nat) (ow:Outer),a=.one (.ptr (.o k) 0)/\NewO ou' ow [(k,.cells (lC (letN k q k1 d)))]/\σ=⟨0,[],ow⟩
     |[a,b]=>∃(k k':Nat) (ow ox:Outer),a=.one (.ptr (.o k) 0)/\b=.one (.ptr (.o k') 0)/\NewO ou' ow [(k,.cells (lC (letN k q k1 d)))]/\NewO ow ox [(k',.cells (lC (letN k' q2 k0 (letN k q k1 d))))]/\σ=⟨0,[],ox⟩
     |_=>False) follows (by kernel_rfl) rfl rfl (by decide) (by kernel_rfl) (by kernel_rfl) rfl rfl ?_ ?_ (by decide) ?_ ?_
   ·rintro vs σ hG
    match vs,hG with
    |[],hG=>subst hG;rfl
    |[a],hG=>obtain⟨k,ow,_,_,rfl⟩:=hG;rfl
    |[a,b],hG=>obtain⟨k,k',ow,ox,_,_,_,_,rfl⟩:=hG;rfl
   ·rintro vs σ hG
    have hv':σ.ou j=some (.cells [int 4,int n2,.sl 1 ([q2].map cI),.sl 1 (kC [k0,k1]),.sl 2 (a2.map lAlt)]):=by
     match vs,hG with
     |[],hG=>subst hG;exact hv
     |[a],hG=>obtain⟨k,ow,_,hN,rfl⟩:=hG;exact hN.oldS hv
     |[a,b],hG=>obtain⟨k,k',ow,ox,_,_,hN,hN2,rfl⟩:=hG;exact hN2.oldS (hN.oldS hv)
    refine .step rfl (zHP (zLD rfl rfl hv' rfl)) ?_
    refine .step rfl (zHP (zIA rfl rfl rfl (by decide) rfl)) ?_
    refine .step rfl (zHP (zLD rfl rfl hv' rfl)) ?_
    refine .step rfl (zHP (zIA rfl rfl rfl (by decide) rfl)) ?_
    refine .step rfl (zHP (zLD rfl rfl hv' rfl)) ?_
    exact .step rfl (zHP (zIA rfl rfl rfl (by decide) rfl)) .nil
   ·rintro vs σ hG p oo hp1 hp2
    match vs,hG with
    |[],hG=>
     subst hG
     cases hp1
     cases hp2
     refine⟨rfl,rfl,.inr ⟨rfl,Q13.call hΓ rfl rfl rfl rfl (by exact⟨trivial,trivial,trivial,trivial⟩) hou (Qi3 hΓ q k1 d ou') fun r ow hq _ _=>?_⟩⟩
     obtain⟨k,rfl,hN⟩:=hq
     exact⟨k,ow,rfl,hN,rfl⟩
    |[a],hG=>
     obtain⟨k,ow,rfl,hN,rfl⟩:=hG
     cases hp1
     cases hp2
     refine⟨rfl,rfl,.inr ⟨rfl,Q13.call hΓ rfl rfl rfl rfl (by exact⟨trivial,trivial,trivial,trivial⟩) hN.ok (Qi3 hΓ q2 k0 (letN k q k1 d) ow) fun r ox hq _ _=>?_⟩⟩
     obtain⟨k',rfl,hN2⟩:=hq
     exact⟨k,k',ow,ox,rfl,rfl,hN,hN2,rfl⟩
    |[a,b],hG=>cases hp1
   rintro vs σ hlen2 hG
   match vs,hlen2,hG with
   |[a,b],_,hG=>
   obtain⟨k,k',ow,ox,rfl,rfl,hN,hN2,rfl⟩:=hG
   have hD0:Der ou' ou' (tailO (.mk i 4 n none [q] [.mk j 4 n2 none [q2] [k0,k1] a2,d] [])) d:=Der.refl (fun p hp=>Q20 hdm hp) hou
   have hD1:=hD0.let hN (PartO.of fun p hp=>Q3b hvm hk1m hp)
   have hD2:=hD1.let hN2 (PartO.of fun p hp=>Q3b hvm hk0m hp)
   refine zM ?_
   refine AFn.fin' rfl (WkF.refl _) (by simp) hN2.ok (ResD.w ho hn ?_)
   rw[hL]
   exact⟨_,rfl,by rw[Qci,Qci],hD2⟩
  ·have h4:¬op2=4:=by simpa using hb
   rw[if_neg (fun h=>h4 h.2),if_neg (by simp),if_neg (by simp)]at hL
   refine zA ?_
   exact AFn.fin' rfl (WkF.refl _) (by simp) hou (by rw[hL];exact⟨rfl,hou,fun _ _ h=>h⟩)
 rw[if_neg (fun h=>h8 h.1)]at hL
 by_cases h9:rule=9
 ·subst h9
  repeat' first|refine zN ?_|((with_reducible refine oj ?_);first|refine zix ?_|refine zow rfl rfl hi ?_|refine zow rfl rfl hv ?_)
  have hal:(erT (.mk j op2 n2 none b2 ks2 a2)).alts.length=a2.length:=by simp[erT]
  rw[hal]at hL
  refine AOps.splitS rfl rfl rfl rfl (fun hb=>?_) (fun hb=>?_)
  ·have h7:op2=7:=by simpa using hb
   subst h7
   repeat' first|refine zN ?_|((with_reducible refine oj ?_);first|refine zix ?_|refine zow rfl rfl hi ?_|refine zow rfl rfl hv ?_)
   refine ACode.condS rfl (fun hb2=>?_) (fun hb2=>?_)
   ·have h1:a2.length=1:=by simp at hb2;omega
    rw[if_pos ⟨rfl,rfl,h1⟩]at hL
    obtain⟨h5,h6⟩:=Qc3 (o:=7) (n:=n2) (b:=b2) (k:=erTs ks2) (a:=a2.map LAlt.er) hvs rfl
    rw[Q0t,List.length_map,List.length_map,h1]at h5
    obtain⟨x1,rfl⟩:=List.length_eq_one_iff.1 h1
    obtain⟨k0,k1,rfl⟩:∃k0 k1,ks2=[k0,k1]:=by
     match ks2,h5 with
     |[k0,k1],_=>exact⟨k0,k1,rfl⟩
    have hx1:x1.nb=none:=(Q15 hpl hvm).2.1 x1 (by simp)
    have hk0m:k0∈(LTr.mk j 7 n2 none b2 [k0,k1] [x1]).kids:=by simp[LTr.kids]
    have hk1m:k1∈(LTr.mk j 7 n2 none b2 [k0,k1] [x1]).kids:=by simp[LTr.kids]
    have hL:X=some (.mk 7 0 [] [erT k0,letT q (erT k1) (erT d)] [x1.er]):=hL
    refine zA ?_
    refine ACode.drawC tabOk 22 [18,19,20,21] [(3,.one (.sl 2 ([x1].map lAlt))),(7,.one (.sl 1 (kC [k0,k1]))),(8,.one (.box [.ptr (.o k0.id) 0])),(14,.one (.sl 1 (kC [k0,k1]))),(15,.one (.box [.ptr (.o k1.id) 0]))] (fun vs σ=>match vs with
      |[]=>σ=⟨0,[],ou'⟩
      |[a]=>∃(k:Nat) (ow:Outer),a=.one (.ptr (.o k) 0)/\NewO ou' ow [(k,.cells (lC (letN k q k1 d)))]/\σ=⟨0,[],ow⟩
      |[a,b]=>∃(k:Nat) (ow:Outer),a=.one (.ptr (.o k) 0)/\b=.one (.sl 1 [[.ptr (.o k0.id) 0],[.ptr (.o k) 0]])/\NewO ou' ow [(k,.cells (lC (letN k q k1 d)))]/\σ=⟨0,[],ow⟩
      |[a,b,c]=>∃(k:Nat) (ow:Outer),a=.one (.ptr (.o k) 0)/\b=.one (.sl 1 [[.ptr (.o k0.id) 0],[.ptr (.o k) 0]])/\c=.agg [int 7,int 0,.lit (.slice none 0 0),.sl 1 [[.ptr (.o k0.id) 0],[.ptr (.o k) 0]],.sl 2 ([x1].map lAlt)]/\NewO ou' ow [(k,.cells (lC (letN k q k1 d)))]/\σ=⟨0,[],ow⟩
      |[a,b,c,e]=>∃(k:Nat) (ow:Outer),a=.one (.ptr (.o k) 0)/\b=.one (.sl 1 [[.ptr (.o k0.id) 0],[.ptr (.o k) 0]])/\c=.agg [int 7,int 0,.lit (.slice none 0 0),.sl 1 [[.ptr (.o k0.id) 0],[.ptr (.o k) 0]],.sl 2 ([x1].map lAlt)]/\e=.one (.ptr (.l 0) 0)/\NewO ou' ow [(k,.cells (lC (letN k q k1 d)))]/\σ=⟨1,[(0,.cells [int 7,int 0,.lit (.slice none 0 0),.sl 1 [[.ptr (.o k0.id) 0],[.ptr (.o k) 0]],.sl 2 ([x1].map lAlt)])],ow⟩
      |_=>False) follows (by kernel_rfl) rfl rfl (by decide) (by kernel_rfl) (by kernel_rfl) rfl rfl ?_ ?_ (by decide) ?_ ?_
    ·rintro vs σ hG
     match vs,hG with
     |[],hG=>subst hG;rfl
     |[a],hG=>obtain⟨k,ow,_,_,rfl⟩:=hG;rfl
     |[a,b],hG=>obtain⟨k,ow,_,_,_,rfl⟩:=hG;rfl
     |[a,b,c],hG=>obtain⟨k,ow,_,_,_,_,rfl⟩:=hG;rfl
     |[a,b,c,e],hG=>obtain⟨k,ow,_,_,_,_,_,rfl⟩:=hG;rfl
    ·rintro vs σ hG
     have hv':σ.ou j=some (.cells [int 7,int n2,.sl 1 (b2.map cI),.sl 1 (kC [k0,k1]),.sl 2 ([x1].map lAlt)]):=by
      match vs,hG with
      |[],hG=>subst hG;exact hv
      |[a],hG=>obtain⟨k,ow,_,hN,rfl⟩:=hG;exact hN.oldS hv
      |[a,b],hG=>obtain⟨k,ow,_,_,hN,rfl⟩:=hG;exact hN.oldS hv
      |[a,b,c],hG=>obtain⟨k,ow,_,_,_,hN,rfl⟩:=hG;exact hN.oldS hv
      |[a,b,c,e],hG=>obtain⟨k,ow,_,_,_,_,hN,rfl⟩:=hG;exact hN.oldS hv
     refine .step rfl (zHP (zLD rfl rfl hv' rfl)) ?_
     refine .step rfl (zHP (zLD rfl rfl hv' rfl)) ?_
     refine .step rfl (zHP (zIA rfl rfl rfl (by decide) rfl)) ?_
     refine .step rfl (zHP (zLD rfl rfl hv' rfl)) ?_
     exact .step rfl (zHP (zIA rfl rfl rfl (by decide) rfl)) .nil
    ·rintro vs σ hG p oo hp1 hp2
     match vs,hG with
     |[],hG=>
      subst hG
      cases hp1
      cases hp2
      refine⟨rfl,rfl,.inr ⟨rfl,Q13.call hΓ rfl rfl rfl rfl (by exact⟨trivial,trivial,trivial,trivial⟩) hou (Qi3 hΓ q k1 d ou') fun r ow hq _ _=>?_⟩⟩
      obtain⟨k,rfl,hN⟩:=hq
      exact⟨k,ow,rfl,hN,rfl⟩
     |[a],hG=>
      obtain⟨k,ow,rfl,hN,rfl⟩:=hG
      cases hp1
      cases hp2
      exact⟨rfl,rfl,.inl ⟨_,_,HStep.auto tabOk rfl,k,ow,rfl,rfl,hN,rfl⟩⟩
     |[a,b],hG=>
      obtain⟨k,ow,rfl,rfl,hN,rfl⟩:=hG
      cases hp1
      cases hp2
      exact⟨rfl,rfl,.inl ⟨_,_,HStep.auto tabOk rfl,k,ow,rfl,rfl,rfl,hN,rfl⟩⟩
     |[a,b,c],hG=>
      obtain⟨k,ow,rfl,rfl,rfl,hN,rfl⟩:=hG
      cases hp1
      cases hp2
      exact⟨rfl,rfl,.inl ⟨_,_,HStep.auto tabOk rfl,k,ow,rfl,rfl,rfl,rfl,hN,rfl⟩⟩
     |[a,b,c,e],hG=>cases hp1
    rintro vs σ hlen2 hG
    match vs,hlen2,hG with
    |[a,b,c,e],_,hG=>
    obtain⟨k,ow,rfl,rfl,rfl,rfl,hN,rfl⟩:=hG
    have hD0:Der ou' ou' (tailO (.mk i 4 n none [q] [.mk j 7 n2 none b2 [k0,k1] [x1],d] [])) d:=Der.refl (fun p hp=>Q20 hdm hp) hou
    have hD1:=hD0.let hN (PartO.of fun p hp=>Q3b hvm hk1m hp)
    have hnd:(AObj.cells (lC (.mk 0 7 0 none [] [k0,letN k q k1 d] [x1]))).ids isO:=Qee _
    refine AOps.wkObj (.l 0) rfl (cs':=lC (.mk 0 7 0 none [] [k0,letN k q k1 d] [x1])) (fun w C xs h=>?_) ?_
    ·exact (show WkL _ _ from .cons (.refl _) (.cons (.refl _) (.cons (.nilS 1) (.cons (.refl _) (.cons (.refl _) .nil))))) w C xs h
    refine AOps.cedes [0] rfl (by decide) hN.ok fun k' hk'=>⟨[(137,.one (.ptr (.o k') 0))],[],[.cells (lC (.mk k' 7 0 none [] [k0,letN k q k1 d] [x1]))],.cons rfl rfl .nil,.nil,?_,?_⟩
    ·exact .cons rfl (AObj.sub_f (fun i hi=>by cases i with|l q=>exact hi.elim|o q=>rfl) _ hnd) .nil
    have hN2:=NewO.add hk' hN.ok (Qee (.mk k' 7 0 none [] [k0,letN k q k1 d] [x1]))
    refine zA ?_
    refine AFn.fin' rfl (WkF.refl _) (by simp) hN2.ok (ResD.w ho hn ?_)
    rw[hL]
    refine⟨.mk k' 7 0 none [] [k0,letN k q k1 d] [x1],rfl,?_,?_⟩
    ·simp only[erT,erTs,Qci,List.map_cons,List.map_nil]
    ·refine Der.node (u:=.mk k' 7 0 none [] [k0,letN k q k1 d] [x1]) hD1.old hN2 ?_
     have et:tailO (.mk k' 7 0 none [] [k0,letN k q k1 d] [x1])=objs k0++objs (letN k q k1 d):=by
      simp only[tailO,bO,List.nil_append,objss,List.append_nil,Q89 (show ∀x∈[x1],x.nb=none by simpa using hx1)]
     rw[et]
     exact (PartO.of fun p hp=>Q3b hvm hk0m hp).app hD1.part
   ·have h1:¬a2.length=1:=by simp at hb2;omega
    rw[if_neg (fun h=>h1 h.2.2),if_neg (by simp)]at hL
    refine zA ?_
    exact AFn.fin' rfl (WkF.refl _) (by simp) hou (by rw[hL];exact⟨rfl,hou,fun _ _ h=>h⟩)
  ·have h7:¬op2=7:=by simpa using hb
   rw[if_neg (fun h=>h7 h.2.1),if_neg (by simp)]at hL
   refine zA ?_
   exact AFn.fin' rfl (WkF.refl _) (by simp) hou (by rw[hL];exact⟨rfl,hou,fun _ _ h=>h⟩)
 rw[if_neg (fun h=>h9 h.1)]at hL
 by_cases h11:rule=11
 ·subst h11
  repeat' first|refine zN ?_|((with_reducible refine oj ?_);first|refine zix ?_|refine zow rfl rfl hi ?_|refine zow rfl rfl hv ?_)
  refine AOps.splitS rfl rfl rfl rfl (fun hb=>?_) (fun hb=>?_)
  ·have h2':op2=2:=by simpa using hb
   repeat' first|refine zN ?_|((with_reducible refine oj ?_);first|refine zix ?_|refine zow rfl rfl hi ?_|refine zow rfl rfl hv ?_)
   rw[hlen]
   refine ACode.condS rfl (fun hb2=>?_) (fun hb2=>?_)
   ·have h1:usesN q (erT d)=1:=by simp at hb2;omega
    rw[if_pos ⟨rfl,h2',h1⟩]at hL
    rw[←Q4u]at h1
    obtain⟨x,hx⟩:=List.length_eq_one_iff.1 h1
    have hxm:x∈usesL q d:=by rw[hx];simp
    have hxk:=Q3z q d x hxm
    have hx1:ou' x.id=some (.cells (lC x)):=hdo _ (Qbv q d x hxm _ (Qha x))
    have hvd:∀k∈keys (objs d),k∉keys (objs (.mk j op2 n2 none b2 ks2 a2)):=fun k hk hk2=>hni.2.2.2.2 k hk2 hk
    refine zA ?_
    rw[hx]
    refine ACode.drawX tabOk 6 [(1,.one (.box [.ptr (.o x.id) 0])),(5,.agg [int op2,int n2,.sl 1 (b2.map cI),.sl 1 (kC ks2),.sl 2 (a2.map lAlt)])] follows (by kernel_rfl) rfl rfl rfl rfl ?_ ?_
    ·refine .step rfl (zHP (zIA rfl rfl rfl (by decide) rfl)) ?_
     exact .step rfl (zHP (AStep.loadOwnA tabOk rfl rfl rfl rfl rfl hv)) .nil
    refine zA ?_
    refine AOps.storeOwnA tabOk rfl rfl rfl rfl rfl (by simp[Qlm]) rfl rfl hx1 ?_
    refine zA ?_
    have hvk2:x.id∉keys (tailO (.mk j op2 n2 none b2 ks2 a2)):=fun hm=>hvd _ hxk (by rw[Q0d];exact List.mem_cons_of_mem _ hm)
    have hok2:OuOk (setO ou' x.id (.cells (lC (.mk j op2 n2 none b2 ks2 a2)))):=Qfr hou (Qee _)
    obtain⟨e1,e2,e3⟩:=Qhl (f:=fun k=>if k=x.id then some (Q31 x.id (.mk j op2 n2 none b2 ks2 a2))else none) (q:=q) (d:=d) (V:=erT (.mk j op2 n2 none b2 ks2 a2)) (ov:=setO ou' x.id (.cells (lC (.mk j op2 n2 none b2 ks2 a2)))) (i:=i) hni.2.2.2.1 (Q15 hpl hdm) hni.2.1 (fun k=>by rw[hx];by_cases e:k=x.id <;> simp[e]) (fun k u hu=>by
     by_cases e:k=x.id
     ·rw[if_pos e]at hu
      cases hu
      refine⟨by rw[Q2h,e],Q63 _ _,Q71 (Q8a hvo) hvk2,fun hm=>?_⟩
      rw[Q3a]at hm
      exact hni.1 (by rw[Q0d];exact List.mem_cons_of_mem _ hm)
     ·rw[if_neg e]at hu;cases hu) (fun p hp hf=>by
     by_cases e:p.1=x.id
     ·rw[if_pos e]at hf;cases hf
     ·rw[Q50 e];exact hdo p hp)
    have hid:(putsL (fun k=>if k=x.id then some (Q31 x.id (.mk j op2 n2 none b2 ks2 a2))else none) d).id=d.id:=Qcb (fun k u hu=>by
     by_cases e:k=x.id
     ·rw[if_pos e]at hu;cases hu;rw[Q2h,e]
     ·rw[if_neg e]at hu;cases hu) d
    refine AFn.fin' rfl (WkF.refl _) (by simp) hok2 ?_
    rw[hL]
    refine⟨_,by rw[hid],e1,e2,e3,hok2,fun k o hk hkt=>?_,fun k hk=>?_⟩
    rotate_left
    ·rcases Qdy (Q15 hpl hdm) (fun k u hu=>by
      by_cases e:k=x.id
      ·rw[if_pos e]at hu;cases hu;rw[Q2h,e]
      ·rw[if_neg e]at hu;cases hu) k hk with hkd|⟨k',u,hu,hku⟩
     ·obtain⟨o',ho'⟩:=Q1r hkd
      exact .inl (Q0q (Q20 hdm ho'))
     ·by_cases e:k'=x.id
      ·rw[if_pos e]at hu
       cases hu
       rw[Q3a]at hku
       obtain⟨o',ho'⟩:=Q1r hku
       exact .inl (Q0q (Q20 hvm (by rw[Q0d];exact List.mem_cons_of_mem _ ho')))
      ·rw[if_neg e]at hu;cases hu
    have hkd:k≠x.id:=fun e=>by
     obtain⟨o',ho'⟩:=Q1r hxk
     exact hkt (e▸Q0q (Q20 hdm ho'))
    exact (Q50 hkd).trans hk
   ·have h1:¬usesN q (erT d)=1:=by simp at hb2;omega
    rw[if_neg (fun h=>h1 h.2.2)]at hL
    refine zA ?_
    exact AFn.fin' rfl (WkF.refl _) (by simp) hou (by rw[hL];exact⟨rfl,hou,fun _ _ h=>h⟩)
  ·have h2':¬op2=2:=by simpa using hb
   rw[if_neg (fun h=>h2' h.2.1)]at hL
   refine zA ?_
   exact AFn.fin' rfl (WkF.refl _) (by simp) hou (by rw[hL];exact⟨rfl,hou,fun _ _ h=>h⟩)
 rw[if_neg (fun h=>h11 h.1)]at hL
 repeat' first|refine zN ?_|((with_reducible refine oj ?_);first|refine zix ?_|refine zow rfl rfl hi ?_|refine zow rfl rfl hv ?_)|(with_reducible refine oj ?_;refine AOps.splitS rfl rfl rfl rfl (fun hb=>?_) (fun hb=>?_))|(with_reducible refine ok ?_;first|refine ACode.condS rfl (fun hb=>?_) (fun hb=>?_)|refine ACode.cond rfl (fun hb=>?_) (fun hb=>?_))
 all_goals first
  |(exfalso;simp at *;omega)
  |exact AFn.fin' rfl (WkF.refl _) (by simp) hou (by rw[hL];exact⟨rfl,hou,fun _ _ h=>h⟩)
end Go.Proofs.YtpaonemmbhbgoaaGreatDoor
