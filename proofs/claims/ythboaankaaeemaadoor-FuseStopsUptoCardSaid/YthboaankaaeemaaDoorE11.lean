/- fuse: places in own trees. -/
import Derived.Test.YthboaankaaeemaaDoorE10
set_option maxRecDepth 10000
set_option linter.unusedVariables false
set_option linter.unusedSimpArgs false
namespace Go.CoreX
structure Cf where
 i:Nat
 o:Int
 n:Int
 nb:Nb
 b:List Int
 l:List LTr
 r:List LTr
 a:List LAlt
def plugF (f:Cf)(t:LTr):LTr:=.mk f.i f.o f.n f.nb f.b (f.l++t::f.r) f.a
def plug:List Cf->LTr->LTr
 |[],t=>t
 |f::c,t=>plugF f (plug c t)
theorem Qa9:∀(c:List Cf)(f:Cf)(t:LTr),plug (c++[f]) t=plug c (plugF f t)
 |[],f,t=>rfl
 |g::c,f,t=>by simp only[List.cons_append,plug,Qa9 c f t]
inductive OneR (L D:Tr):Tr->Tr->Prop
 |here:OneR L D L D
 |kid {o n:Int}{b:List Int}{a:List Alt}{l r:List Tr}{t t':Tr}(h:OneR L D t t'):OneR L D (.mk o n b (l++t::r) a) (.mk o n b (l++t'::r) a)
theorem Q7z(l r:List LTr):erTs (l++r)=erTs l++erTs r:=by simp[Q2i]
theorem Qbf(t t':LTr):∀c:List Cf,OneR (erT t) (erT t') (erT (plug c t)) (erT (plug c t'))
 |[]=>.here
 |f::c=>by
  simp only[plug,plugF,erT,Q7z,erTs]
  exact .kid (Qbf t t' c)
theorem Qgm:∀(l:List Tr)(m:Int),m<=mxTs m l
 |[],m=>Int.le_refl m
 |t::l,m=>by
  have:=Qgm l (max m (mxT t))
  simp only[mxTs]
  have h2:=Int.le_max_left m (mxT t)
  omega
theorem mxT_ge(t:Tr):-1<=mxT t:=by
 obtain⟨o,n,b,k,a⟩:=t
 simp only[mxT]
 have h1:=Qgm k ((Q04 o b a).foldl max (-1))
 have h2:∀(l:List Int) (m:Int),m<=l.foldl max m:=by
  intro l
  induction l with
  |nil=>exact fun m=>Int.le_refl m
  |cons x l ih=>
   intro m
   have:=ih (max m x)
   have h3:=Int.le_max_left m x
   simp only[List.foldl_cons];omega
 have:=h2 (Q04 o b a) (-1)
 omega
theorem Q6x(R:List RuF)(lim:Nat)(t:Tr):∀(l:List Tr)(s:Nat),Q14 R lim (l++[t]) s=((Q14 R lim l s).1++[(walkF R lim t (Q14 R lim l s).2).1],(walkF R lim t (Q14 R lim l s).2).2)
 |[],s=>by simp[Q14]
 |u::l,s=>by simp only[List.cons_append,Q14,Q6x R lim t l]
end Go.CoreX
namespace Go.Proofs.YthboaankaaeemaaDoor
open Go Go.Abs Go.CoreX
theorem Qcz{t t':LTr}(h:t'.id=t.id):∀c:List Cf,(plug c t').id=(plug c t).id
 |[]=>h
 |f::c=>rfl
theorem Q79{ou:Outer}{t:LTr}:∀{c:List Cf},Owns ou (objs (plug c t))->Owns ou (objs t)
 |[],h=>h
 |f::c,h=>Q79 (c:=c) (Q7a (ks:=f.l++plug c t::f.r) h (by simp))
theorem Q8t{t:LTr}:∀{c:List Cf},(keys (objs (plug c t))).Nodup->(keys (objs t)).Nodup
 |[],h=>h
 |f::c,h=>Q8t (c:=c) (Q4i h)
theorem Qbd{t:LTr}{k:Nat}(h:k∈keys (objs t)):∀c:List Cf,k∈keys (objs (plug c t))
 |[]=>h
 |f::c=>by
  have h1:=Qbd h c
  rw[plug,plugF,Q2e]
  simp only[keys,List.map_cons,List.map_append,List.mem_cons,List.mem_append]
  refine .inr (.inr ?_)
  rw[Q2s]
  obtain⟨p,hp,e⟩:=List.mem_map.1 h1
  exact List.mem_map.2 ⟨p,List.mem_flatMap.2 ⟨plug c t,by simp,hp⟩,e⟩
theorem Q8s{t:LTr}:∀{c:List Cf},Q1i (plug c t)->Q1i t
 |[],h=>h
 |f::c,h=>Q8s (c:=c) (Q0s.1 h.2.2 _ (by simp))
theorem Q78{t t':LTr}(h':Q1i t'):∀{c:List Cf},Q1i (plug c t)->Q1i (plug c t')
 |[],h=>h'
 |f::c,h=>⟨h.1,h.2.1,Q0s.2 fun s hs=>by
  have h3:=Q0s.1 h.2.2
  simp only[List.mem_append,List.mem_cons]at hs
  rcases hs with hs|hs|hs
  ·exact h3 s (by simp[hs])
  ·rw[hs];exact Q78 h' (t:=t) (c:=c) (h3 (plug c t) (by simp))
  ·exact h3 s (by simp[hs])⟩
theorem Qcy{t:LTr}:∀{c:List Cf},OkTr (erT (plug c t))->OkTr (erT t)
 |[],h=>h
 |f::c,h=>Qcy (c:=c) (by
  simp only[plug,plugF,erT]at h
  exact h.kid (by simp[Q2i]))
theorem UpdL.plug{ou ou':Outer}{t t':LTr}(h:UpdL ou (objs t) ou' (objs t'))(hid:t'.id=t.id):∀c:List Cf,Owns ou (objs (plug c t))->(keys (objs (plug c t))).Nodup->UpdL ou (objs (Go.CoreX.plug c t)) ou' (objs (Go.CoreX.plug c t'))
 |[],_,_=>h
 |f::c,ho,hn=>UpdL.kid (UpdL.plug h hid c (Q7a (ks:=f.l++Go.CoreX.plug c t::f.r) ho (by simp)) (Q4i hn)) (Qcz hid c) ho hn
theorem UpdL.more{ou ou':Outer}{L L':List (Nat×AObj)}{k:Nat}{x:AObj}(h:UpdL ou L ou' L')(hk:ou k=some x)(hn:k∉keys L):UpdL ou ((k,x)::L) ou' ((k,x)::L'):=by
 have hn':k∉keys L':=fun h2=>(h.new k h2).elim hn (by rw[hk];simp)
 refine⟨fun p hp=>?_,List.nodup_cons.2 ⟨hn',h.nd⟩,fun j hj=>?_,fun j hj hne=>h.old j (fun h2=>hj (List.mem_cons_of_mem _ h2)) hne,h.ok⟩
 ·rcases List.mem_cons.1 hp with rfl|hp
  ·exact (h.old k hn (by rw[hk];simp)).trans hk
  ·exact h.own p hp
 ·rcases List.mem_cons.1 hj with rfl|hj
  ·exact .inl List.mem_cons_self
  ·exact (h.new j hj).imp (List.mem_cons_of_mem _) id
structure RootOk (T:Tr):Prop where
 tr:OkTr T
 b:okB (listT [] T)
 cnt:cntN T<=4096
 mx:-1<=mxT T/\mxT T<=1048576
theorem Q4r{T:Tr}(h:check (listT [] T)=0)(ho:okT T):RootOk T:=by
 obtain⟨p1,_,_,_⟩:=Q35 h
 obtain⟨q1,_,q3⟩:=(Q1z _).1 p1
 have c1:=Q2a T []
 simp only[List.length_nil]at c1
 rw[Q0c]at q3
 have hm:=Qhm h
 rw[Q0c]at hm
 have hx:=mxT_le 1048575 (by omega) T hm
 exact⟨⟨ho,by omega,by omega⟩,Qe6 (Qd1 T ho) (by omega),by omega,mxT_ge T,by omega⟩
abbrev RuL:=List (Nat×List Ex×List Ex)
def rfL (RL:RuL):List RuF:=RL.map fun r=>⟨r.1,grow r.2.1,grow r.2.2⟩
def cRL (RL:RuL):List (List AC):=RL.map fun r=>cRu r.1 r.2.1 r.2.2
def RN (RL:RuL)(rid s:Nat):AObj:=.cells [.sl 3 (cRL RL),.ptr (.o rid) 0,int (s:Nat)]
@[simp] theorem ids_cRL (p:Abs.Id->Prop) (RL:RuL):idsS p (cRL RL):=Q2u (f:=fun r:Nat×List Ex×List Ex=>cRu r.1 r.2.1 r.2.2) (fun r=>by simp) RL
structure VR (RL:RuL)(P:Tr->Prop):Prop where
 len:RL.length<=16
 ru:∀r∈RL,RuOk r.1 r.2.1 r.2.2
 ok:∀T,P T->okT T
 step:∀r∈rfL RL,∀t D root root',replF r t=some D->OneR t D root root'->check (listT [] root)=0->P root->check (listT [] root')=0/\P root'
theorem Q7x{α β:Type}{f:α->Option β}{D:β}:∀{l:List α}{j:Nat}{x:α},l[j]?=some x->(∀(q:Nat)(y:α),q < j->l[q]?=some y->f y=none)->f x=some D->l.findSome? f=some D
 |[],j,x,h,_,_=>by simp at h
 |y::l,0,x,h,_,hx=>by
  simp at h;subst h
  rw[List.findSome?_cons,hx]
 |y::l,j+1,x,h,hn,hx=>by
  rw[List.findSome?_cons,hn 0 y (Nat.succ_pos _) rfl]
  exact Q7x (by simpa using h) (fun q z hq hz=>hn (q+1) z (by omega) (by simpa using hz)) hx
def WalkQ (RL:RuL)(P:Tr->Prop)(c:List Cf)(t:LTr)(kr s:Nat)(ou:Outer)(r:FV)(ou':Outer):Prop:=r=.tup []/\∃(t':LTr)(s':Nat),t'.id=t.id/\(erT t',s')=walkF (rfL RL) 200 (erT t) s/\Q1i (plug c t')/\
 UpdL ou ((kr,RN RL (plug c t).id s)::objs (plug c t)) ou' ((kr,RN RL (plug c t).id s')::objs (plug c t'))/\check (listT [] (erT (plug c t')))=0/\P (erT (plug c t'))/\s'<=200
structure WalkI (RL:RuL)(P:Tr->Prop)(c:List Cf)(t:LTr)(kr rid s:Nat)(ou:Outer):Prop where
 own:Owns ou ((kr,RN RL rid s)::objs (plug c t))
 nd:(keys ((kr,RN RL rid s)::objs (plug c t))).Nodup
 rid:rid=(plug c t).id
 pl:Q1i (plug c t)
 ck:check (listT [] (erT (plug c t)))=0
 p:P (erT (plug c t))
 s:s<=200
def WalkOk (RL:RuL)(P:Tr->Prop)(t:LTr):Prop:=∀(c:List Cf)(ou:Outer)(kr s:Nat),WalkI RL P c t kr (plug c t).id s ou->OuOk ou->AFn Tryd.prog Γc 43 [.one (.ptr (.o kr) 0),.one (.ptr (.o t.id) 0)] ou (WalkQ RL P c t kr s ou)
theorem Qfx(RL:RuL)(P:Tr->Prop)(hV:VR RL P):∀t:LTr,WalkOk RL P t
 |.mk i o n nb b ks a=>by
  have ih:∀k∈ks,WalkOk RL P k:=fun k hk=>Qfx RL P hV k
  intro c ou kr s hI hou0
  obtain⟨rid,hrid⟩:∃rid,rid=(plug c (.mk i o n nb b ks a)).id:=⟨_,rfl⟩
  rw[←hrid]at hI
  have hroot:=Q4r hI.ck (hV.ok _ hI.p)
  have hkl:ks.length<=1048576:=by
   have h1:=(Qcy hroot.tr).ok.2.1
   simpa[Qas]using h1
  have hkC:(kC ks).length=ks.length:=by simp[kC]
  have hi:ou i=some (.cells [int o,int n,bC nb b,.sl 1 (kC ks),.sl 2 (a.map lAlt)]):=Q32 (Q79 (c:=c) fun p hp=>hI.own p (List.mem_cons_of_mem _ hp))
  refine AFn.walk 74 tabOk Tryd.func43 rfl (by kernel_rfl) rfl rfl fun hou=>?_
  repeat' first|refine zN ?_|((with_reducible refine oj ?_);first|refine zix ?_|refine zow rfl rfl hi ?_)
  refine ACode.loopR hΓc (α:=Nat×Outer×List LTr×Nat) (fun c'=>[(16,.one (int c'.1)),(15,.one (int (kC ks).length)),(14,.one (.sl 1 (kC ks))),(0,.one (.ptr (.o kr) 0)),(1,.one (.ptr (.o i) 0))]) (fun c'=>⟨0,[],c'.2.1⟩)
   (fun m c' => (c'.1 <= ks.length /\ c'.2.2.1.map LTr.id = (ks.take c'.1).map LTr.id /\ (erTs c'.2.2.1, c'.2.2.2) = Q14 (rfL RL) 200 (erTs (ks.take c'.1)) s /\ WalkI RL P c (.mk i o n nb b (c'.2.2.1 ++ ks.drop c'.1) a) kr rid c'.2.2.2 c'.2.1 /\
    UpdL ou ((kr,RN RL rid s)::objs (plug c (.mk i o n nb b ks a))) c'.2.1 ((kr,RN RL rid c'.2.2.2)::objs (plug c (.mk i o n nb b (c'.2.2.1++ks.drop c'.1) a))))/\m=ks.length - c'.1)
   (a0 := (0, ou, [], s)) (ρ := _root_.id) ⟨⟨by omega, rfl, rfl, hI, UpdL.refl hI.own hI.nd hou0⟩, rfl⟩ (LessR.of rfl zFS (by simp) zLO rfl rfl hou) fun m c' hc' => ?_
  obtain⟨j,ov,dn,sj⟩:=c'
  obtain⟨⟨hjl,hid,hwk,hIj,hU⟩,rfl⟩:=hc'
  dsimp only at hjl hid hwk hIj hU
  have hov:=hU.ok
  have hdl:dn.length=j:=by have:=congrArg List.length hid;simp at this;omega
  refine zA ?_
  refine ACode.cond rfl (fun hb=>?_) (fun hb=>?_)
  ·have hlt:j < ks.length:=by simp[hkC]at hb;omega
   obtain⟨t,ht⟩:=Q00 hlt
   have hdr:ks.drop j=t::ks.drop (j+1):=by
    obtain⟨h1,h2⟩:=List.getElem?_eq_some_iff.1 ht
    rw[List.drop_eq_getElem_cons h1,h2]
   have hpa:plug (c++[⟨i,o,n,nb,b,dn,ks.drop (j+1),a⟩]) t=plug c (.mk i o n nb b (dn++ks.drop j) a):=by rw[Qa9,hdr];rfl
   have hcall:=ih t (List.mem_of_getElem? ht) (c++[⟨i,o,n,nb,b,dn,ks.drop (j+1),a⟩]) ov kr sj (by
    have e:(plug (c++[⟨i,o,n,nb,b,dn,ks.drop (j+1),a⟩]) t).id=rid:=by rw[hpa];exact hIj.rid.symm
    rw[e]
    exact⟨by rw[hpa];exact hIj.own,by rw[hpa];exact hIj.nd,by rw[hpa];exact hIj.rid,by rw[hpa];exact hIj.pl,by rw[hpa];exact hIj.ck,by rw[hpa];exact hIj.p,hIj.s⟩) hov
   refine zA ?_
   refine zS (zIA rfl rfl rfl (by omega) (Qek ht)) ?_
   refine zA ?_
   refine AOps.call1 hΓc rfl rfl rfl rfl rfl rfl rfl (by simp[FV.ids,idsF,AC.ids,isO]) hov hcall fun r ow hq hids how=>?_
   obtain⟨rfl,t',s',ht'id,ht'w,ht'p,ht'U,ht'c,ht'P,ht's⟩:=hq
   have e:(plug (c++[⟨i,o,n,nb,b,dn,ks.drop (j+1),a⟩]) t).id=rid:=by rw[hpa];exact hIj.rid.symm
   have hpa2:plug (c++[⟨i,o,n,nb,b,dn,ks.drop (j+1),a⟩]) t'=plug c (.mk i o n nb b ((dn++[t'])++ks.drop (j+1)) a):=by rw[Qa9];simp[plugF]
   rw[e,hpa,hpa2]at ht'U
   rw[hpa2]at ht'p ht'c ht'P
   have hI2:WalkI RL P c (.mk i o n nb b ((dn++[t'])++ks.drop (j+1)) a) kr rid s' ow:=⟨ht'U.own,ht'U.nd,hrid.trans (Qcz (t:=.mk i o n nb b ((dn++[t'])++ks.drop (j+1)) a) (t':=.mk i o n nb b ks a) rfl c),ht'p,ht'c,ht'P,ht's⟩
   have hwk2:(erTs (dn++[t']),s')=Q14 (rfL RL) 200 (erTs (ks.take (j+1))) s:=by
    rw[Q0j ht,Q7z,Q7z]
    show _=Q14 (rfL RL) 200 (erTs (ks.take j)++[erT t]) s
    rw[Q6x,←hwk]
    dsimp only
    rw[←ht'w]
    rfl
   refine zM ?_
   exact cInv ⟨ks.length - (j+1),(j+1,ow,dn++[t'],s'),_root_.id,by omega,⟨⟨by omega,by rw[Q0j ht,List.map_append,List.map_append,hid];simp[ht'id],hwk2,hI2,hU.trans ht'U⟩,rfl⟩,LessR.of rfl zFS (by simp) zLO rfl rfl how⟩
  have hje:j=ks.length:=by simp[hkC]at hb;omega
  subst hje
  rw[List.take_length]at hwk
  rw[List.drop_length,List.append_nil]at hIj hU
  have hw0:walkF (rfL RL) 200 (erT (.mk i o n nb b ks a)) s=loopF (rfL RL) 200 201 (erT (.mk i o n nb b dn a)) sj:=by
   simp only[erT,walkF]
   rw[←hwk]
  obtain⟨F,hF⟩:∃F,F=loopF (rfL RL) 200 201 (erT (.mk i o n nb b dn a)) sj:=⟨_,rfl⟩
  have hfin:∀(t':LTr) (s':Nat) (ow:Outer),t'.id=i->(erT t',s')=F->WalkI RL P c t' kr rid s' ow->UpdL ou ((kr,RN RL rid s)::objs (plug c (.mk i o n nb b ks a))) ow ((kr,RN RL rid s')::objs (plug c t'))->WalkQ RL P c (.mk i o n nb b ks a) kr s ou (.tup []) ow:=fun t' s' ow h1 h2 h3 h4 =>
   ⟨rfl, t', s', h1, by rw [hw0, ← hF]; exact h2, h3.pl, by rw [← hrid]; exact h4, h3.ck, h3.p, h3.s⟩
  refine zA ?_
  refine ACode.loopR hΓc (α:=Bool×Nat×LTr×Nat×Outer) (fun c'=>[(6,.one (.lit (.bool c'.1))),(0,.one (.ptr (.o kr) 0)),(1,.one (.ptr (.o i) 0))]) (fun c'=>⟨0,[],c'.2.2.2.2⟩)
   (fun m c' => (c'.2.2.1.id = i /\ WalkI RL P c c'.2.2.1 kr rid c'.2.2.2.1 c'.2.2.2.2 /\ UpdL ou ((kr, RN RL rid s) :: objs (plug c (.mk i o n nb b ks a))) c'.2.2.2.2 ((kr, RN RL rid c'.2.2.2.1) :: objs (plug c c'.2.2.1)) /\
    (c'.1=true->loopF (rfL RL) 200 c'.2.1 (erT c'.2.2.1) c'.2.2.2.1=F/\200 < c'.2.1+c'.2.2.2.1)/\(c'.1=false->(erT c'.2.2.1,c'.2.2.2.1)=F))/\m=if c'.1=true then c'.2.1+1 else 0)
   (a0:=(true,201,.mk i o n nb b dn a,sj,ov)) (ρ:=_root_.id) ⟨⟨rfl,hIj,hU,fun _=>⟨hF.symm,by show 200 < 201+sj;omega⟩,fun h=>by cases h⟩,rfl⟩ (LessR.of rfl zFS (by simp) zLO rfl rfl hov) fun m c' hc'=>?_
  clear hI hi hIj hU hov hwk hw0
  obtain⟨ag,fu,t,s1,ov⟩:=c'
  obtain⟨⟨hti,hI,hU,hT,hFf⟩,rfl⟩:=hc'
  dsimp only at hti hI hU hT hFf
  have hov:=hU.ok
  cases ag with
  |false=>
   have hres:=hFf rfl
   refine zA ?_
   exact AFn.fin' rfl (WkF.ofEq rfl) (by simp[FV.ids,idsF]) hov (hfin t s1 ov hti hres hI hU)
  |true=>
   obtain⟨hlp,hfu⟩:=hT rfl
   clear hT hFf
   have hkr:ov kr=some (.cells [.sl 3 (cRL RL),.ptr (.o rid) 0,int (s1:Nat)]):=hI.own (kr,_) List.mem_cons_self
   obtain⟨fu',rfl⟩:∃fu',fu=fu'+1:=⟨fu - 1,by have:=hI.s;omega⟩
   repeat' first|refine zN ?_|((with_reducible refine oj ?_);first|refine zix ?_|refine zow rfl rfl hkr ?_)
   have hcl:(cRL RL).length=RL.length:=by simp[cRL]
   have hRlen:=hV.len
   refine ACode.loopR hΓc (α:=Nat×Outer) (fun c'=>[(30,.one (int c'.1)),(29,.one (int (cRL RL).length)),(28,.one (.sl 3 (cRL RL))),(6,.one (.lit (.bool false))),(0,.one (.ptr (.o kr) 0)),(1,.one (.ptr (.o i) 0))]) (fun c'=>⟨0,[],c'.2⟩)
    (fun m c'=>(c'.1<=RL.length/\WalkI RL P c t kr rid s1 c'.2/\UpdL ou ((kr,RN RL rid s)::objs (plug c (.mk i o n nb b ks a))) c'.2 ((kr,RN RL rid s1)::objs (plug c t))/\∀(q:Nat) (r:RuF),q < c'.1->(rfL RL)[q]?=some r->replF r (erT t)=none)/\m=RL.length - c'.1)
    (a0:=(0,ov)) (ρ:=_root_.id) ⟨⟨by omega,hI,hU,fun q r hq=>by omega⟩,rfl⟩ (LessR.of rfl zFS (by simp) zLO rfl rfl hov) fun m c' hc'=>?_
   clear hI hU hov hkr
   obtain⟨j2,ov⟩:=c'
   obtain⟨⟨hjl2,hI,hU,hno⟩,rfl⟩:=hc'
   dsimp only at hjl2 hI hU hno
   have hov:=hU.ok
   have hkr:ov kr=some (.cells [.sl 3 (cRL RL),.ptr (.o rid) 0,int (s1:Nat)]):=hI.own (kr,_) List.mem_cons_self
   refine zA ?_
   refine ACode.cond rfl (fun hb2=>?_) (fun hb2=>?_)
   ·have hlt:j2 < RL.length:=by simp[hcl]at hb2;omega
    obtain⟨ru,hru⟩:=Q00 hlt
    have hrc:(cRL RL)[j2]?=some (cRu ru.1 ru.2.1 ru.2.2):=by simp[cRL,hru]
    have hrf:(rfL RL)[j2]?=some ⟨ru.1,grow ru.2.1,grow ru.2.2⟩:=by simp[rfL,hru]
    have hrk:=hV.ru ru (List.mem_of_getElem? hru)
    refine zA ?_
    refine zS (zIA rfl rfl rfl (by omega) hrc) ?_
    repeat' first|refine zN ?_|((with_reducible refine oj ?_);first|refine zix ?_|refine zow rfl rfl hkr ?_)
    refine ACode.cond rfl (fun hb4=>?_) (fun hb4=>?_)
    ·have hs2:s1=200:=by simp at hb4;omega
     have hres:(erT t,s1)=F:=by
      rw[←hlp]
      unfold loopF
      rw[if_pos hs2]
     refine zA ?_
     exact AFn.fin' rfl (WkF.ofEq rfl) (by simp[FV.ids,idsF]) hov (hfin t s1 ov hti hres hI hU)
    ·have hs2:s1≠200:=by simp at hb4;omega
     have hOt:Owns ov (objs t):=Q79 (c:=c) fun p hp=>hI.own p (List.mem_cons_of_mem _ hp)
     have hOr:Owns ov (objs (plug c t)):=fun p hp=>hI.own p (List.mem_cons_of_mem _ hp)
     have hnr:(keys (objs (plug c t))).Nodup:=(List.nodup_cons.1 hI.nd).2
     have hnt:(keys (objs t)).Nodup:=Q8t (c:=c) hnr
     have hrt:=Q4r hI.ck (hV.ok _ hI.p)
     have hcall:=Qcw ru.1 ru.2.1 ru.2.2 hrk t (plug c t) ov (Qcy hrt.tr) hrt.tr.ok hrt.mx hOt hnt hOr
     rw[←hI.rid]at hcall
     obtain⟨i',o',n',nb',b',ks',a'⟩:=t
     have hti:i'=i:=hti
     subst hti
     have hit:ov i'=some (.cells [int o',int n',bC nb' b',.sl 1 (kC ks'),.sl 2 (a'.map lAlt)]):=Q32 hOt
     repeat ((fail_if_success ((with_reducible refine oj ?_);refine AOps.atDst 41 rfl ?_));first|refine zO ?_)
     refine zS (AStep.loadOwnA tabOk rfl rfl rfl rfl rfl hit) ?_
     refine zA ?_
     obtain⟨cr,hcr⟩:∃cr,cr=cRu ru.1 ru.2.1 ru.2.2:=⟨_,rfl⟩
     refine ACode.lessR (fr':=[(8,.one (.ptr (.l 0) 0)),(30,.one (int j2)),(29,.one (int (cRL RL).length)),(28,.one (.sl 3 (cRL RL))),(6,.one (.lit (.bool false))),(0,.one (.ptr (.o kr) 0)),(1,.one (.ptr (.o i') 0))]) (σ':=⟨1,[(0,.cells (cRu ru.1 ru.2.1 ru.2.2))],ov⟩) (ρ:=_root_.id) hΓc (LessR.of rfl zFS (by simp) zLO rfl rfl hov) ?_
     have hnew:∀{r:FV}{o2:Outer},ReplQ ru.1 ru.2.1 ru.2.2 (.mk i' o' n' nb' b' ks' a') ov r o2->o2 kr=ov kr:=fun {r o2} hq=>by
      have hkn:kr∉keys (objs (.mk i' o' n' nb' b' ks' a')):=fun h=>(List.nodup_cons.1 hI.nd).1 (Qbd h c)
      cases hD:replF ⟨ru.1,grow ru.2.1,grow ru.2.2⟩ (erT (.mk i' o' n' nb' b' ks' a')) with
      |none=>rw[(hq.2.1 hD).2 kr _ hkr,hkr]
      |some D=>
       obtain⟨N,_,_,_,_,_,_,h8⟩:=hq.2.2 D hD
       rw[h8 kr _ hkr (.inl hkn),hkr]
     refine ACode.drawR1 tabOk 7 6 [(5,.one (.ptr (.o rid) 0))] (fun v σ=>∃o2,ReplQ ru.1 ru.2.1 ru.2.2 (.mk i' o' n' nb' b' ks' a') ov v o2/\σ=⟨1,[(0,.cells (cRu ru.1 ru.2.1 ru.2.2))],o2⟩)
      follows (by kernel_rfl) rfl rfl (by kernel_rfl) (by kernel_rfl) rfl rfl rfl rfl ?_ ?_ ?_ ?_ ?_
     ·rintro v σ ⟨o2,_,rfl⟩;rfl
     ·exact .step rfl (zHP (zLD rfl rfl hkr rfl)) .nil
     ·rintro v σ ⟨o2,hq,rfl⟩
      exact .step rfl (zHP (zLD rfl rfl ((hnew hq).trans hkr) rfl)) .nil
     ·exact .inl (.inr ⟨rfl,Q2q.call hΓc rfl rfl rfl rfl (by simp[FV.ids,idsF,AC.ids,isO]) hov hcall fun r o2 hq _ _=>⟨o2,hq,rfl⟩⟩)
     ·rintro v σ ⟨o2,hq,rfl⟩
      have hkr2:=(hnew hq).trans hkr
      cases hD:replF ⟨ru.1,grow ru.2.1,grow ru.2.2⟩ (erT (.mk i' o' n' nb' b' ks' a')) with
      |none=>
       obtain⟨rfl,hext⟩:=hq.2.1 hD
       repeat ((fail_if_success ((with_reducible refine oj ?_);refine AOps.atDst 50 rfl ?_));first|refine zO ?_)
       refine zS (AStep.eqNil0 Tryd.underlying90 rfl rfl rfl) ?_
       have hU2:UpdL ov ((kr,RN RL rid s1)::objs (plug c (.mk i' o' n' nb' b' ks' a'))) o2 ((kr,RN RL rid s1)::objs (plug c (.mk i' o' n' nb' b' ks' a'))):=⟨fun p hp=>hext p.1 p.2 (hI.own p hp),hI.nd,fun k hk=>.inl hk,fun k hk hne=>by
        cases h:ov k with
        |none=>exact absurd h hne
        |some x=>exact hext k x h,hq.1⟩
       refine zM ?_
       refine cInv ⟨RL.length - (j2+1),(j2+1,o2),_root_.id,by omega,⟨⟨by omega,⟨hU2.own,hI.nd,hI.rid,hI.pl,hI.ck,hI.p,hI.s⟩,hU.trans hU2,fun q r hq2 hr2=>?_⟩,rfl⟩,LessR.of rfl zFS (by simp) zLO rfl rfl hq.1⟩
       by_cases hqj:q=j2
       ·subst hqj
        rw[hrf]at hr2
        cases hr2
        exact hD
       ·exact hno q r (by omega) hr2
      |some D=>
       obtain⟨N,rfl,hNe,hNp,hNo,hNn,hNk,hNx⟩:=hq.2.2 D hD
       repeat ((fail_if_success ((with_reducible refine oj ?_);refine AOps.atDst 50 rfl ?_));first|refine zO ?_)
       refine zS (AStep.eqNil Tryd.underlying90 rfl rfl rfl) ?_
       obtain⟨iN,oN,nN,nbN,bN,kN,aN⟩:=N
       have hNc:o2 iN=some (.cells [int oN,int nN,bC nbN bN,.sl 1 (kC kN),.sl 2 (aN.map lAlt)]):=Q32 hNo
       repeat ((fail_if_success ((with_reducible refine oj ?_);refine AOps.atDst 54 rfl ?_));first|refine zO ?_)
       refine zS (AStep.loadOwnA tabOk rfl rfl rfl rfl rfl hNc) ?_
       refine zA ?_
       have hi2:o2 i'=some (.cells [int o',int n',bC nb' b',.sl 1 (kC ks'),.sl 2 (a'.map lAlt)]):=hNx i' _ hit (.inr rfl)
       refine AOps.storeOwnA (cs:=[int o',int n',bC nb' b',.sl 1 (kC ks'),.sl 2 (a'.map lAlt)]) (vs:=[int oN,int nN,bC nbN bN,.sl 1 (kC kN),.sl 2 (aN.map lAlt)]) tabOk rfl rfl rfl rfl rfl rfl rfl rfl hi2 ?_
       rw[Q4q]
       obtain⟨o3,ho3⟩:∃o3,o3=updO o2 i' (.cells [int oN,int nN,bC nbN bN,.sl 1 (kC kN),.sl 2 (aN.map lAlt)]):=⟨_,rfl⟩
       have hidN:AObj.ids isO (.cells [int oN,int nN,bC nbN bN,.sl 1 (kC kN),.sl 2 (aN.map lAlt)]):=Qj3 _ _ _ _ _ _
       have hok3:OuOk o3:=by rw[ho3];exact Q6z hq.1 hidN
       have hNe2:objs (.mk iN oN nN nbN bN kN aN)=(iN,.cells [int oN,int nN,bC nbN bN,.sl 1 (kC kN),.sl 2 (aN.map lAlt)])::((bO nbN bN++aO aN)++objss kN):=Q2e _ _ _ _ _ _ _
       have hte:objs (.mk i' oN nN nbN bN kN aN)=(i',.cells [int oN,int nN,bC nbN bN,.sl 1 (kC kN),.sl 2 (aN.map lAlt)])::((bO nbN bN++aO aN)++objss kN):=Q2e _ _ _ _ _ _ _
       obtain⟨Rr,hRr⟩:∃Rr,Rr=(bO nbN bN++aO aN)++objss kN:=⟨_,rfl⟩
       rw[←hRr]at hNe2 hte
       rw[hNe2]at hNo hNn hNk
       have hRk:∀k∈keys Rr,k≠i'/\(ov k=none∨k∈keys (objs (.mk i' o' n' nb' b' ks' a'))):=fun k hk=>by
        rcases hNk k (List.mem_cons_of_mem _ hk)with h|h
        ·exact⟨fun e=>(by rw[e,hit]at h;cases h),.inl h⟩
        ·exact⟨h.2,.inr h.1⟩
       have hU1:UpdL ov (objs (.mk i' o' n' nb' b' ks' a')) o3 (objs (.mk i' oN nN nbN bN kN aN)):=by
        rw[hte]
        refine⟨fun p hp=>?_,List.nodup_cons.2 ⟨fun h=>(hRk _ h).1 rfl,(List.nodup_cons.1 hNn).2⟩,fun k hk=>?_,fun k hk hne=>?_,hok3⟩
        ·rcases List.mem_cons.1 hp with rfl|hp
         ·rw[ho3];exact Q06 _ _ _
         ·rw[ho3,Q0a _ (Ne.symm (hRk _ (List.mem_map_of_mem hp)).1)]
          exact hNo p (List.mem_cons_of_mem _ hp)
        ·rcases List.mem_cons.1 hk with hk|hk
         ·exact .inl (hk▸Qep (.mk i' o' n' nb' b' ks' a'))
         ·exact (hRk k hk).2.symm
        ·have hki:k≠i':=fun e=>hk (e▸Qep (.mk i' o' n' nb' b' ks' a'))
         cases h:ov k with
         |none=>exact absurd h hne
         |some x=>rw[ho3,Q0a _ (Ne.symm hki)];exact hNx k x h (.inl hk)
       have hkn:kr∉keys (objs (plug c (.mk i' o' n' nb' b' ks' a'))):=(List.nodup_cons.1 hI.nd).1
       have hU2:=(hU1.plug rfl c hOr hnr).more hkr hkn
       have hrid2:rid=(plug c (.mk i' oN nN nbN bN kN aN)).id:=hI.rid.trans (Qcz (t:=.mk i' oN nN nbN bN kN aN) (t':=.mk i' o' n' nb' b' ks' a') rfl c)
       have hDe:erT (.mk i' oN nN nbN bN kN aN)=D:=hNe
       have hst:=hV.step _ (List.mem_of_getElem? hrf) _ D _ _ hD (by have:=Qbf (.mk i' o' n' nb' b' ks' a') (.mk i' oN nN nbN bN kN aN) c;rw[hDe]at this;exact this) hI.ck hI.p
       have hpl2:Q1i (plug c (.mk i' oN nN nbN bN kN aN)):=Q78 (by have h:=hNp (Q8s hI.pl);exact⟨h.1,h.2.1,h.2.2⟩) hI.pl
       have hrt2:=Q4r hst.1 (hV.ok _ hst.2)
       have hOr3:Owns o3 (objs (plug c (.mk i' oN nN nbN bN kN aN))):=fun p hp=>hU2.own p (List.mem_cons_of_mem _ hp)
       have hlist:=Qf3 hΓc (plug c (.mk i' oN nN nbN bN kN aN)) hrt2.tr.ok hpl2 hrt2.tr.sz o3 hOr3
       rw[←hrid2]at hlist
       have hkr3:o3 kr=some (.cells [.sl 3 (cRL RL),.ptr (.o rid) 0,int (s1:Nat)]):=hU2.own (kr,_) List.mem_cons_self
       rw[←ho3]
       repeat' first|refine zN ?_|((with_reducible refine oj ?_);first|refine zix ?_|refine zow rfl rfl hkr3 ?_)
       refine AOps.callK hΓc hlist rfl rfl rfl rfl rfl rfl rfl hok3 (by simp[FV.ids,idsF,AC.ids,isO]) ?_
       refine zA ?_
       refine zca hΓc (Q3g _ hrt2.b) hok3 ?_
       rw[hst.1]
       repeat' first|refine zN ?_|((with_reducible refine oj ?_);first|refine zix ?_|refine zow rfl rfl hkr3 ?_)
       have hs1:s1<=200:=hI.s
       refine zM ?_
       refine AOps.storeOwn tabOk rfl rfl rfl rfl rfl rfl rfl hkr3 (by simp) ?_
       rw[Q4q]
       have hne9:(AObj.cells (([.sl 3 (cRL RL),.ptr (.o rid) 0,int (s1:Nat)]:List AC).set 2 (int ((s1:Int)+1))))=RN RL rid (s1+1):=by simp[RN]
       rw[hne9]
       have hidR:AObj.ids isO (RN RL rid (s1+1)):=by simp[RN]
       have hU3:=UpdL.one (c':=RN RL rid (s1+1)) hU2.own hU2.nd hok3 hidR
       have hlp2:loopF (rfL RL) 200 fu' D (s1+1)=F:=by
        rw[←hlp]
        conv=>rhs;unfold loopF
        rw[if_neg hs2]
        have hsn:stepF (rfL RL) (erT (.mk i' o' n' nb' b' ks' a'))=some D:=Q7x hrf hno hD
        rw[hsn]
       refine zM ?_
       exact cInv ⟨fu'+1,(true,fu',.mk i' oN nN nbN bN kN aN,s1+1,updO o3 kr (RN RL rid (s1+1))),_root_.id,by simp,⟨⟨rfl,⟨hU3.own,hU3.nd,hrid2,hpl2,hst.1,hst.2,by show s1+1<=200;omega⟩,(hU.trans hU2).trans hU3,fun _=>⟨by rw[←hlp2,←hDe],by show 200 < fu'+(s1+1);omega⟩,fun h=>(by cases h)⟩,rfl⟩,LessR.of rfl zFS (by simp) zLO rfl rfl hU3.ok⟩
   ·have hje2:j2=RL.length:=by simp[hcl]at hb2;omega
    have hres:(erT t,s1)=F:=by
     rw[←hlp]
     unfold loopF
     have hsn:stepF (rfL RL) (erT t)=none:=by
      unfold stepF
      rw[List.findSome?_eq_none_iff]
      intro r hr
      obtain⟨q,hq⟩:=List.mem_iff_getElem?.1 hr
      exact hno q r (by rw[hje2];have:=(List.getElem?_eq_some_iff.1 hq).1;simpa[rfL]using this) hq
     rw[hsn]
     split <;> rfl
    refine zA ?_
    exact cInv ⟨0,(false,0,t,s1,ov),_root_.id,by simp,⟨⟨hti,hI,hU,fun h=>(by cases h),fun _=>hres⟩,rfl⟩,LessR.of rfl zFS (by simp) zLO rfl rfl hov⟩
end Go.Proofs.YthboaankaaeemaaDoor
namespace Go.CoreX
def Q4a (n:Nat):List Int:=(List.range n).map fun i:Nat=>(i:Int)
def varAt (id:Int)(x:Ex):Nat:=if x.op=0/\x.n=id then 1 else 0
def cntV (e:List Ex)(id:Int):Nat:=(e.map (varAt id)).sum
theorem Qhl:∀(e:List Ex)(id:Int),cntV e id<=e.length
 |[],_=>by simp[cntV]
 |x::e,id=>by
  have:=Qhl e id
  simp only[cntV,List.map_cons,List.sum_cons,List.length_cons]at this ⊢
  have hv:varAt id x<=1:=by unfold varAt;split <;> omega
  omega
theorem Qhk{e:List Ex}{j:Nat}{x:Ex}(h:e[j]?=some x)(id:Int):cntV (e.take (j+1)) id=cntV (e.take j) id+varAt id x:=by
 rw[List.take_add_one,h];simp[cntV]
end Go.CoreX
namespace Go.Proofs.YthboaankaaeemaaDoor
open Go Go.Abs Go.CoreX
variable {Γ:List (Nat×List AC)}
theorem Qd7(j:Nat):Q4a (j+1)=Q4a j++[(j:Int)]:=by simp[Q4a,List.range_succ]
theorem Q9d(j:Nat):(Q4a j).length=j:=by simp[Q4a]
theorem Qj7(hΓ:∀g cs,(g,cs)∈Γ->idsL isO cs)(H:Nat)(hH:H<=1048576):APure Tryd.prog Γ 71 [.one (int (H:Nat))] (.one (.sl 1 ((Q4a H).map cI))):=by
 intro ou
 refine AFn.walk 15 tabOk Tryd.func71 rfl (by kernel_rfl) rfl rfl fun hou=>?_
 refine zA ?_
 refine ACode.growS 3 3 1 rfl ?_
 refine ACode.loopR hΓ (α:=Nat) (fun j=>[(6,.one (int j)),(5,.one (int (H:Nat))),(3,.one (.gs 1 ((Q4a j).map cI) (.l 0)))]) (fun j=>⟨1,[(0,.tok 3 1 j)],ou⟩) (fun m j=>j<=H/\m=H - j) (a0:=0) (ρ:=_root_.id) ⟨by omega,rfl⟩
  (LessR.of rfl (FrSub.cons rfl (.ofEq rfl) (FrSub.cons rfl (.ofEq rfl) (FrSub.consGs rfl rfl (by simp) .nil))) (by simp) zLO rfl rfl hou) fun m j hj=>?_
 obtain⟨hjl,rfl⟩:=hj
 refine zA ?_
 refine ACode.cond rfl (fun hb=>?_) (fun hb=>?_)
 ·have hlt:j < H:=by simpa using hb
  have hl:=Q9d j
  refine zA ?_
  refine AOps.app tabOk rfl rfl rfl rfl rfl rfl rfl rfl rfl (Base.gs' _ _ _ _ _ (by rfl) (by simp[hl])) (.sl _ _) rfl (by simp[hl];show _ * 8<=_;omega) (by simp[hl];omega) ?_
  refine zM ?_
  exact cInv ⟨H - (j+1),j+1,fun _=>1,by omega,⟨by omega,rfl⟩,LessR.of rfl (FrSub.cons rfl (.ofEq rfl) (FrSub.cons rfl (.ofEq rfl) (FrSub.consGs (by rw[Qd7,List.map_append];rfl) rfl (by simp) .nil))) (by simp) (LoSub.cons rfl (by simp[AObj.ren,hl];rfl) rfl (by simp) .nil) rfl rfl hou⟩
 ·have hje:j=H:=by simp at hb;omega
  subst hje
  refine zA ?_
  exact APure.fin rfl (.one (.gsE rfl)) (by simp) hou rfl
theorem Qex(hΓ:∀g cs,(g,cs)∈Γ->idsL isO cs)(e:List Ex)(he:e.length<=1048576)(id:Int):APure Tryd.prog Γ 72 [.one (.sl 5 (e.map cEx)),.one (int id)] (.one (int (cntV e id:Nat))):=by
 intro ou
 refine AFn.walk 27 tabOk Tryd.func72 rfl (by kernel_rfl) rfl rfl fun hou=>?_
 refine zA ?_
 refine ACode.loopR hΓ (α:=Nat) (fun j=>[(10,.one (int j)),(9,.one (int (e.map cEx).length)),(8,.one (.sl 5 (e.map cEx))),(5,.one (int (cntV (e.take j) id:Nat))),(1,.one (int id))]) (fun j=>⟨0,[],ou⟩) (fun m j=>j<=e.length/\m=e.length - j) (a0:=0) (ρ:=_root_.id) ⟨by omega,rfl⟩
  (LessR.of rfl zFS (by simp) zLO rfl rfl hou) fun m j hj=>?_
 obtain⟨hjl,rfl⟩:=hj
 refine zA ?_
 refine ACode.cond rfl (fun hb=>?_) (fun hb=>?_)
 ·have hlt:j < e.length:=by simpa using hb
  obtain⟨x,hx⟩:=Q00 hlt
  have hct:=Qhk hx id
  have hcl:=Qhl (e.take j) id
  rw[List.length_take]at hcl
  refine zA ?_
  refine zS (zIA rfl rfl rfl (by omega) (Q05 hx)) ?_
  refine zA ?_
  refine AOps.splitG rfl rfl rfl (fun hb5=>?_) (fun hb5=>?_)
  ·have h0:x.op=0:=by simpa using hb5
   refine zM ?_
   refine ACode.cond rfl (fun hb6=>?_) (fun hb6=>?_)
   ·have h1:x.n=id:=by simpa using hb6
    have hv:varAt id x=1:=by unfold varAt;rw[if_pos ⟨h0,h1⟩]
    refine zM ?_
    exact cInv ⟨e.length - (j+1),j+1,_root_.id,by omega,⟨by omega,rfl⟩,LessR.of rfl (FrSub.cons rfl (.ofEq rfl) (FrSub.cons rfl (.ofEq rfl) (FrSub.consP rfl (.ofEq rfl) (by simp) (FrSub.cons rfl (.ofEq (by rw[hct,hv];simp[FV.ren,AC.ren])) (FrSub.cons rfl (.ofEq rfl) .nil))))) (by simp) zLO rfl rfl hou⟩
   ·have h1:¬x.n=id:=by simpa using hb6
    have hv:varAt id x=0:=by unfold varAt;rw[if_neg (fun h=>h1 h.2)]
    refine zM ?_
    exact cInv ⟨e.length - (j+1),j+1,_root_.id,by omega,⟨by omega,rfl⟩,LessR.of rfl (FrSub.cons rfl (.ofEq rfl) (FrSub.cons rfl (.ofEq rfl) (FrSub.consP rfl (.ofEq rfl) (by simp) (FrSub.cons rfl (.ofEq (by rw[hct,hv];simp[FV.ren,AC.ren])) (FrSub.cons rfl (.ofEq rfl) .nil))))) (by simp) zLO rfl rfl hou⟩
  ·have h0:¬x.op=0:=by simpa using hb5
   have hv:varAt id x=0:=by unfold varAt;rw[if_neg (fun h=>h0 h.1)]
   refine zM ?_
   exact cInv ⟨e.length - (j+1),j+1,_root_.id,by omega,⟨by omega,rfl⟩,LessR.of rfl (FrSub.cons rfl (.ofEq rfl) (FrSub.cons rfl (.ofEq rfl) (FrSub.consP rfl (.ofEq rfl) (by simp) (FrSub.cons rfl (.ofEq (by rw[hct,hv];simp[FV.ren,AC.ren])) (FrSub.cons rfl (.ofEq rfl) .nil))))) (by simp) zLO rfl rfl hou⟩
 ·have hje:j=e.length:=by simp at hb;omega
  subst hje
  rw[List.take_length]
  refine zA ?_
  exact APure.fin rfl (.refl _) (by simp) hou rfl
structure RuC (H:Nat)(Lx Rx:List Ex):Prop where
 h:H<=16
 lb:okB Lx
 rb:okB Rx
 le:body Lx (Q4a H) false=0
 re:body Rx (Q4a H) false=0
 ln:∃x,Lx[Lx.length - 1]?=some x/\x.op≠0
 c:∀i < H,cntV Lx (i:Int)=1/\cntV Rx (i:Int)<=1
theorem Q6e(RL:RuL)(hl:RL.length<=16)(hr:∀r∈RL,RuC r.1 r.2.1 r.2.2):APure Tryd.prog Γc 41 [.one (.sl 3 (cRL RL))] (.one (int 0)):=by
 have hcl:(cRL RL).length=RL.length:=by simp[cRL]
 intro ou
 refine AFn.walk 74 tabOk Tryd.func41 rfl (by kernel_rfl) rfl rfl fun hou=>?_
 refine zA ?_
 refine ACode.cond rfl (fun hb=>?_) (fun hb=>?_)
 ·exfalso;simp[hcl]at hb;omega
 refine zA ?_
 refine ACode.loopR hΓc (α:=Nat) (fun j=>[(14,.one (int j)),(13,.one (int (cRL RL).length)),(12,.one (.sl 3 (cRL RL)))]) (fun j=>⟨0,[],ou⟩) (fun m j=>j<=RL.length/\m=RL.length - j) (a0:=0) (ρ:=_root_.id) ⟨by omega,rfl⟩
  (LessR.of rfl zFS (by simp) zLO rfl rfl hou) fun m j hj=>?_
 obtain⟨hjl,rfl⟩:=hj
 refine zA ?_
 refine ACode.cond rfl (fun hb=>?_) (fun hb=>?_)
 ·have hlt:j < RL.length:=by simp[hcl]at hb;omega
  obtain⟨⟨H,Lx,Rx⟩,hru⟩:=Q00 hlt
  have hrc:(cRL RL)[j]?=some (cRu H Lx Rx):=by simp[cRL,hru]
  have hR:=hr _ (List.mem_of_getElem? hru)
  dsimp only at hR
  have hH:=hR.h
  refine zA ?_
  refine zS (zIA rfl rfl rfl (by omega) hrc) ?_
  refine zA ?_
  refine ACode.cond rfl (fun hb=>?_) (fun hb=>?_)
  ·exfalso;have:=of_decide_eq_true hb;omega
  refine zA ?_
  refine ACode.loopR hΓc (α:=Nat) (fun k=>[(32,.one (int k)),(31,.one (int 2)),(30,.one (.sl 1 [[.sl 5 (Lx.map cEx)],[.sl 5 (Rx.map cEx)]])),(4,.one (.ptr (.l 0) 0)),(14,.one (int j)),(13,.one (int (cRL RL).length)),(12,.one (.sl 3 (cRL RL)))]) (fun _=>⟨1,[(0,.cells (cRu H Lx Rx))],ou⟩) (fun m k=>k<=2/\m=2 - k) (a0:=0) (ρ:=_root_.id) ⟨by omega,rfl⟩
   (LessR.of rfl zFS (by simp) zLO rfl rfl hou) fun m k hk => ?_
  obtain⟨hkl,rfl⟩:=hk
  have hone:∀(e:List Ex),(e=Lx∨e=Rx)->okB e/\body e (Q4a H) false=0:=fun e he=>by
   rcases he with rfl|rfl
   ·exact⟨hR.lb,hR.le⟩
   ·exact⟨hR.rb,hR.re⟩
  refine zA ?_
  refine ACode.cond rfl (fun hb=>?_) (fun hb=>?_)
  ·have hlt2:k < 2:=by have:=of_decide_eq_true hb;omega
   obtain⟨e,hee,hge⟩:∃e,(e=Lx∨e=Rx)/\([[.sl 5 (Lx.map cEx)],[.sl 5 (Rx.map cEx)]]:List (List AC))[k]?=some [.sl 5 (e.map cEx)]:=by
    match k,hlt2 with
    |0,_=>exact⟨Lx,.inl rfl,rfl⟩
    |1,_=>exact⟨Rx,.inr rfl,rfl⟩
   obtain⟨hbe,hb0⟩:=hone e hee
   refine zA ?_
   refine zS (zIA rfl rfl rfl (by omega) hge) ?_
   refine zA ?_
   refine zca hΓc (Qj7 hΓc H (by omega)) hou ?_
   refine zca hΓc (Qi4 e hbe (Q4a H) (by rw[Q9d];omega) false) hou ?_
   rw[hb0]
   refine zM ?_
   exact cInv ⟨2 - (k+1),k+1,_root_.id,by omega,⟨by omega,rfl⟩,LessR.of rfl zFS (by simp) zLO rfl rfl hou⟩
  clear hb hkl
  obtain⟨x,hx,hxo⟩:=hR.ln
  have hne:Lx.length≠0:=fun e=>by rw[List.length_eq_zero_iff.1 e]at hx;simp at hx
  have hll:=hR.lb.eo.l
  refine zM ?_
  refine zS (AStep.indexAddr (n:=((Lx.map cEx).length:Int) - 1) tabOk rfl rfl rfl rfl rfl rfl (.inl rfl) rfl (by simp;omega) (by rw[show (((Lx.map cEx).length:Int) - 1).toNat=Lx.length - 1 by simp];exact Q05 hx)) ?_
  refine zA ?_
  refine ACode.cond rfl (fun hb=>?_) (fun hb=>?_)
  ·exact absurd (by simpa using hb) hxo
  refine zA ?_
  refine ACode.loopR hΓc (α:=Nat) (fun k=>[(57,.one (int k)),(56,.one (int (H:Nat))),(4,.one (.ptr (.l 0) 0)),(14,.one (int j)),(13,.one (int (cRL RL).length)),(12,.one (.sl 3 (cRL RL)))]) (fun _=>⟨1,[(0,.cells (cRu H Lx Rx))],ou⟩) (fun m k=>k<=H/\m=H - k) (a0:=0) (ρ:=_root_.id) ⟨by omega,rfl⟩
   (LessR.of rfl zFS (by simp) zLO rfl rfl hou) fun m k hk=>?_
  obtain⟨hkl,rfl⟩:=hk
  refine zA ?_
  refine ACode.cond rfl (fun hb=>?_) (fun hb=>?_)
  ·have hlt2:k < H:=by have:=of_decide_eq_true hb;omega
   obtain⟨hc1,hc2⟩:=hR.c k hlt2
   refine zA ?_
   refine zca hΓc (Qex hΓc Lx hll (k:Int)) hou ?_
   rw[hc1]
   refine zA ?_
   refine AOps.callG hΓc (Qex hΓc Rx hR.rb.eo.l (k:Int)) rfl rfl rfl rfl rfl rfl rfl rfl rfl hou (by simp) ?_
   refine zM ?_
   refine ACode.cond rfl (fun hb=>?_) (fun hb=>?_)
   ·exfalso;have:=of_decide_eq_true hb;omega
   refine zM ?_
   exact cInv ⟨H - (k+1),k+1,_root_.id,by omega,⟨by omega,rfl⟩,LessR.of rfl zFS (by simp) zLO rfl rfl hou⟩
  ·refine zM ?_
   exact cInv ⟨RL.length - (j+1),j+1,_root_.id,by omega,⟨by omega,rfl⟩,LessR.of rfl zFS (by simp) zLO rfl rfl hou⟩
 ·refine zA ?_
  exact APure.fin rfl (.refl _) (by simp) hou rfl
def fuseE (RL:RuL)(e:List Ex):Tr×Nat:=walkF (rfL RL) 200 (grow e) 0
theorem Q7u(RL:RuL)(e:List Ex)(he:okB e)(hc:check e≠0):APure Tryd.prog Γc 18 [.one (.sl 5 (e.map cEx)),.one (.sl 3 (cRL RL))] (.tup [.one (.sl 5 (([]:List Ex).map cEx)),.one (int 0),.one (int (check e))]):=by
 intro ou
 refine AFn.walk 40 tabOk Tryd.func18 rfl (by kernel_rfl) rfl rfl fun hou=>?_
 refine zA ?_
 refine zca hΓc (Q3g e he) hou ?_
 refine zA ?_
 refine ACode.cond rfl (fun hb=>?_) (fun hb=>?_)
 ·refine zA ?_
  exact APure.fin rfl (WkF.tup (.cons (.one (.nilS 5)) (.cons (.refl _) (.cons (.refl _) .nil)))) (by simp) hou rfl
 ·exact absurd (by simpa using hb) hc
theorem Q5z(RL:RuL)(P:Tr->Prop)(hV:VR RL P)(hC:∀r∈RL,RuC r.1 r.2.1 r.2.2)(e:List Ex)(he:okB e)(hc:check e=0)(hP:P (grow e)):APure Tryd.prog Γc 18 [.one (.sl 5 (e.map cEx)),.one (.sl 3 (cRL RL))] (.tup [.one (.sl 5 ((listT [] (fuseE RL e).1).map cEx)),.one (int ((fuseE RL e).2:Nat)),.one (int 0)]):=by
 have t1:=Q12 hc
 intro ou
 refine AFn.walk 40 tabOk Tryd.func18 rfl (by kernel_rfl) rfl rfl fun hou=>?_
 refine zA ?_
 refine zca hΓc (Q3g e he) hou ?_
 rw[hc]
 refine zA ?_
 refine zca hΓc (Q6e RL hV.len hC) hou ?_
 refine zA ?_
 refine AOps.call1 hΓc rfl rfl rfl rfl rfl rfl rfl (by simp) hou (Qf6 hΓc e he.eo t1.k t1 ou) fun r o1 hq hids ho1=>?_
 obtain⟨T,rfl,hTe,hTp,hTo,hTn,hTnew,_,hTold⟩:=hq
 repeat ((fail_if_success ((with_reducible refine oj ?_);refine AOps.atDst 30 rfl ?_));first|refine zO ?_)
 refine AOps.cedes [0] rfl (by decide) ho1 fun k hk=>⟨[(25,.one (.ptr (.o k) 0)),(29,.one (.ptr (.o T.id) 0)),(9,.one (.ptr (.o k) 0))],[],[RN RL T.id 0],?_,.nil,?_,?_⟩
 ·exact .cons rfl rfl (.cons rfl rfl (.cons rfl rfl .nil))
 ·exact .cons rfl (AObj.sub_f (fun i hi=>by cases i with|l q=>exact hi.elim|o q=>rfl) (RN RL T.id 0) (by simp[RN])) .nil
 have hk':∀m,k<=m->o1 m=none:=hk
 obtain⟨o2,ho2⟩:∃o2:Outer,o2=ouAdd o1 k [RN RL T.id 0]:=⟨_,rfl⟩
 have q0:o2 k=some (RN RL T.id 0):=by rw[ho2];exact Q0f 0
 have q4:∀j,j < k->o2 j=o1 j:=fun j hj=>by rw[ho2];exact Q26 hj
 have q5:OuOk o2:=by
  rw[ho2]
  refine Q2r ho1 fun o ho=>?_
  simp only[List.mem_cons,List.not_mem_nil,or_false]at ho
  subst ho;simp[RN]
 have hTk:∀j∈keys (objs T),j < k:=fun j hj=>by
  obtain⟨p,hp,rfl⟩:=List.mem_map.1 hj
  exact Q1y hk' (hTo p hp)
 have hI:WalkI RL P [] T k T.id 0 o2:=⟨fun p hp=>by
   rcases List.mem_cons.1 hp with rfl|hp
   ·exact q0
   ·rw[q4 _ (hTk _ (List.mem_map_of_mem hp))];exact hTo p hp,List.nodup_cons.2 ⟨fun h=>Nat.lt_irrefl k (hTk k h),hTn⟩,rfl,hTp,by rw[plug,hTe];exact Q3r hc,by rw[plug,hTe];exact hP,by omega⟩
 show AOps _ _ _ _ _ ⟨1,[],ouAdd o1 k [RN RL T.id 0]⟩
 rw[←ho2]
 refine AOps.call1 hΓc rfl rfl rfl rfl rfl rfl rfl (by simp[FV.ids,idsF,AC.ids,isO]) q5 (Qfx RL P hV T [] o2 k 0 hI q5) fun r o3 hq3 hids3 ho3=>?_
 obtain⟨rfl,t',s',hid,hw,hpl',hU,hck,hP',hs'⟩:=hq3
 simp only[plug]at hpl' hU hck hP'
 have hF:fuseE RL e=(erT t',s'):=by unfold fuseE;rw[hw,hTe]
 have hkr:o3 k=some (.cells [.sl 3 (cRL RL),.ptr (.o T.id) 0,int (s':Nat)]):=hU.own (k,_) List.mem_cons_self
 have hrt:=Q4r hck (hV.ok _ hP')
 have hlist:=Qf3 hΓc t' hrt.tr.ok hpl' hrt.tr.sz o3 (fun p hp=>hU.own p (List.mem_cons_of_mem _ hp))
 rw[hid]at hlist
 refine zA ?_
 refine ACode.drawX tabOk 11 [(3,.one (.ptr (.o T.id) 0)),(4,.one (.sl 5 ((listT [] (erT t')).map cEx))),(8,.one (int (s':Nat)))] follows (by kernel_rfl) rfl rfl rfl rfl ?_ ?_
 ·refine .step rfl (zHP (zLD rfl rfl hkr rfl)) ?_
  exact .callK hΓc hlist ho3 (by simp[FV.ids,idsF,AC.ids,isO]) rfl rfl rfl rfl rfl rfl (.step rfl (zHP (zLD rfl rfl hkr rfl)) .nil)
 refine AOps.lessO ⟨1,[],ou⟩ rfl (fun i o hi=>?_) ?_
 ·cases i with
  |l m=>cases hi
  |o m=>
   have hm:ou m=some o:=hi
   have h1:=hTold m o hm
   have hmk:m < k:=Q1y hk' h1
   have hmT:m∉keys (objs T):=fun h=>by rw[hTnew m h]at hm;cases hm
   show o3 m=some o
   rw[hU.old m (fun h=>?_) (by rw[q4 m hmk,h1];simp),q4 m hmk]
   ·exact h1
   ·rcases List.mem_cons.1 h with h|h
    ·have h:m=k:=h
     omega
    ·exact hmT h
 refine zA ?_
 rw[hF]
 exact APure.fin rfl (.refl _) (by simp) hou rfl
theorem Qc4(H:Nat)(Lx Rx:List Ex)(hr:RuOk H Lx Rx)(hC:RuC H Lx Rx)(e:List Ex)(he:okB e)(hc:check e=0):APure Tryd.prog Γc 17 [.one (.sl 5 (e.map cEx)),.agg (cRu H Lx Rx)] (.tup [.one (.lit (.bool (matF ⟨H,grow Lx,grow Rx⟩ (grow e)))),.one (int 0)]):=by
 have t1:=Q12 hc
 have hH:=hr.h
 intro ou
 refine AFn.walk 35 tabOk Tryd.func17 rfl (by kernel_rfl) rfl rfl fun hou=>?_
 refine zA ?_
 refine zca hΓc (Q3g e he) hou ?_
 rw[hc]
 refine zA ?_
 refine zca hΓc (Q6e [(H,Lx,Rx)] (by simp) (fun r hr'=>by simp at hr';subst hr';exact hC)) hou ?_
 refine zA ?_
 refine ACode.cutR hΓc (α:=Unit) (fun _=>[(8,.one (.ptr (.l 3) 0)),(3,.one (.ptr (.l 0) 0)),(0,.one (.sl 5 (e.map cEx)))])
  (fun _ => ⟨4, [(3, .cells [int (H : Nat), .mp (.l 1), .arr (.l 2) 1 0 H H]), (2, .cells (List.replicate H (.lit (.pointer none)))), (1, .map 0 (encI eN [])), (0, .cells (cRu H Lx Rx))], ou⟩) (fun _ => True) ?_ fun _ _ => ?_
 ·have hb:ti90.bytes * H<=281474976710656:=by show 8 * _<=_;omega
  have hb2:H<=281474976710656:=by omega
  refine ACode.drawS 8 [2,5,6,7] [.one (.ptr (.l 0) 0),.one (int (H:Nat)),.bot,.one (.ptr (.l 0) 0),.one (int (H:Nat)),.bot,.bot,.bot]
   (MkM (.one (.mp (.l 1))) (.one (.mp (.l 2))) (.one (.arr (.l 1) 1 0 H H)) (.one (.arr (.l 2) 1 0 H H)) (.agg [int (H : Nat), .mp (.l 1), .arr (.l 2) 1 0 H H]) (.agg [int (H : Nat), .mp (.l 2), .arr (.l 1) 1 0 H H]) (.one (.ptr (.l 3) 0))
    ⟨1,[(0,.cells (cRu H Lx Rx))],ou⟩ ⟨2,[(1,.map 0 []),(0,.cells (cRu H Lx Rx))],ou⟩ ⟨2,[(1,.cells (List.replicate H (.lit (.pointer none)))),(0,.cells (cRu H Lx Rx))],ou⟩
    ⟨3,[(2,.cells (List.replicate H (.lit (.pointer none)))),(1,.map 0 []),(0,.cells (cRu H Lx Rx))],ou⟩ ⟨3,[(2,.map 0 []),(1,.cells (List.replicate H (.lit (.pointer none)))),(0,.cells (cRu H Lx Rx))],ou⟩
    ⟨4,[(3,.cells [int (H:Nat),.mp (.l 1),.arr (.l 2) 1 0 H H]),(2,.cells (List.replicate H (.lit (.pointer none)))),(1,.map 0 []),(0,.cells (cRu H Lx Rx))],ou⟩
    ⟨4,[(3,.cells [int (H:Nat),.mp (.l 2),.arr (.l 1) 1 0 H H]),(2,.map 0 []),(1,.cells (List.replicate H (.lit (.pointer none)))),(0,.cells (cRu H Lx Rx))],ou⟩)
   follows (by kernel_rfl) rfl rfl .n ?_ ?_ ?_ ?_
  ·intro f σ h i hi
   have:2≠i/\5≠i/\6≠i/\7≠i:=⟨(by rintro rfl;cases hi),(by rintro rfl;cases hi),(by rintro rfl;cases hi),(by rintro rfl;cases hi)⟩
   cases h <;> simp[updV,this]
  ·intro i o hi hS hlo
   match i,hi with
   |0,_=>cases hlo;exact⟨_,rfl,rfl,rfl,by kernel_rfl,fun f σ h=>by cases h <;> exact HStep.auto tabOk rfl⟩
   |1,_=>cases hlo;exact⟨_,rfl,rfl,rfl,by kernel_rfl,fun f σ h=>by cases h <;> exact HStep.auto tabOk rfl⟩
   |2,_=>cases hS
   |3,_=>cases hlo;exact⟨_,rfl,rfl,rfl,by kernel_rfl,fun f σ h=>by cases h <;> exact HStep.auto tabOk rfl⟩
   |4,_=>cases hlo;exact⟨_,rfl,rfl,rfl,by kernel_rfl,fun f σ h=>by cases h <;> exact HStep.auto tabOk rfl⟩
   |5,_=>cases hS
   |6,_=>cases hS
   |7,_=>cases hS
  ·intro f σ i o h hS hlo hfi hdep
   have hi:i=2∨i=5∨i=6∨i=7:=by
    simp only[List.any_cons,List.any_nil,Bool.or_false,Bool.or_eq_true]at hS
    rcases hS with h|h|h|h <;> have:=Nat.eq_of_beq_eq_true h <;> omega
   rcases hi with rfl|rfl|rfl|rfl <;> cases hlo
   ·cases h with
    |n=>exact⟨rfl,rfl,_,_,HStep.plain rfl (AStep.makeMap rfl),.a⟩
    |b=>exact⟨rfl,rfl,_,_,HStep.plain rfl (AStep.makeMap rfl),.ba⟩
    |_=>cases hfi
   ·cases h with
    |n=>exact⟨rfl,rfl,_,_,HStep.plain rfl (AStep.makeArr (σ:=⟨1,[(0,.cells (cRu H Lx Rx))],ou⟩) tabOk rfl rfl rfl rfl rfl rfl rfl rfl hb hb2),.b⟩
    |a=>exact⟨rfl,rfl,_,_,HStep.plain rfl (AStep.makeArr (σ:=⟨2,[(1,.map 0 []),(0,.cells (cRu H Lx Rx))],ou⟩) tabOk rfl rfl rfl rfl rfl rfl rfl rfl hb hb2),.ab⟩
    |_=>cases hfi
   ·cases h with
    |ab=>exact⟨rfl,rfl,_,_,HStep.auto tabOk rfl,.abc⟩
    |ba=>exact⟨rfl,rfl,_,_,HStep.auto tabOk rfl,.bac⟩
    |n=>exact absurd (hdep ⟨2,.data⟩ (.tail _ (.head _)) rfl rfl) (by simp)
    |a=>exact absurd (hdep ⟨5,.data⟩ (.tail _ (.tail _ (.head _))) rfl rfl) (by simp[updV])
    |b=>exact absurd (hdep ⟨2,.data⟩ (.tail _ (.head _)) rfl rfl) (by simp[updV])
    |_=>cases hfi
   ·cases h with
    |abc=>exact⟨rfl,rfl,_,_,HStep.auto tabOk rfl,.abd⟩
    |bac=>exact⟨rfl,rfl,_,_,HStep.auto tabOk rfl,.bad⟩
    |n=>exact absurd (hdep ⟨6,.data⟩ (.head _) rfl rfl) (by simp)
    |a=>exact absurd (hdep ⟨6,.data⟩ (.head _) rfl rfl) (by simp[updV])
    |b=>exact absurd (hdep ⟨6,.data⟩ (.head _) rfl rfl) (by simp[updV])
    |ab=>exact absurd (hdep ⟨6,.data⟩ (.head _) rfl rfl) (by simp[updV])
    |ba=>exact absurd (hdep ⟨6,.data⟩ (.head _) rfl rfl) (by simp[updV])
    |_=>cases hfi
  ·intro f σ h hall
   have h7:=hall 7 (by simp) (by omega)
   cases h with
   |abd=>
    refine zA ?_
    exact cInv ⟨(),_root_.id,trivial,LessR.of rfl zFS (by simp) zLO rfl rfl hou⟩
   |bad=>
    refine zA ?_
    exact cInv ⟨(),fun k=>if k=1 then 2 else if k=2 then 1 else k,trivial,LessR.of rfl zFS (by simp) zLO rfl rfl hou⟩
   |n=>cases h7
   |a=>cases h7
   |b=>cases h7
   |ab=>cases h7
   |ba=>cases h7
   |abc=>cases h7
   |bac=>cases h7
 refine zA ?_
 refine zca hΓc (Q8b hΓc Lx hr.le hr.lk hr.ln) hou ?_
 refine zA ?_
 refine AOps.call1 hΓc rfl rfl rfl rfl rfl rfl rfl (by simp) hou (Qf6 hΓc e he.eo t1.k t1 ou) fun r o1 hq hids ho1=>?_
 obtain⟨T,rfl,hTe,hTp,hTo,hTn,hTnew,_,hTold⟩:=hq
 have hθ:∀(k:Nat) (i:Abs.Id),isO i->toOs [3,1,2] k i=i:=fun k i hi=>by cases i with|l q=>exact hi.elim|o q=>rfl
 refine AOps.cedes [3,1,2] rfl (by decide) ho1 fun k hk=>⟨[(28,.one (.ptr (.o k) 0)),(31,.one (.box (cTr (grow Lx)))),(33,.one (.ptr (.o T.id) 0))],
  [],[.cells [int (H:Nat),.mp (.o (k+1)),.arr (.o (k+2)) 1 0 H H],.map 0 (encI eN []),.cells (List.replicate H (.lit (.pointer none)))],?_,.nil,?_,?_⟩
 ·exact .cons rfl rfl (.cons rfl (FV.sub_f (hθ k) _ (by simp)) (.cons rfl rfl .nil))
 ·exact .cons rfl rfl (.cons rfl rfl (.cons rfl (AObj.sub_f (hθ k) (.cells _) (Q6c _ _ _)) .nil))
 have hk':∀m,k<=m->o1 m=none:=hk
 obtain⟨o2,ho2⟩:∃o2:Outer,o2=ouAdd o1 k [.cells [int (H:Nat),.mp (.o (k+1)),.arr (.o (k+2)) 1 0 H H],.map 0 (encI eN []),.cells (List.replicate H (.lit (.pointer none)))]:=⟨_,rfl⟩
 have g0:o2 k=some (.cells [int (H:Nat),.mp (.o (k+1)),.arr (.o (k+2)) 1 0 H H]):=by rw[ho2];exact Q0f 0
 have g1:o2 (k+1)=some (.map 0 (encI eN [])):=by rw[ho2];exact Q0f 1
 have g2:o2 (k+2)=some (.cells ((List.replicate H (none:Option LTr)).map fA)):=by rw[ho2,List.map_replicate];exact Q0f 2
 have g4:∀j,j < k->o2 j=o1 j:=fun j hj=>by rw[ho2];exact Q26 hj
 have g5:OuOk o2:=by
  rw[ho2]
  refine Q2r ho1 fun o ho=>?_
  simp only[List.mem_cons,List.not_mem_nil,or_false]at ho
  rcases ho with rfl|rfl|rfl
  ·simp
  ·exact Q3b _ _ _
  ·exact Q6c _ _ _
 have hTk:∀j∈keys (objs T),j < k:=fun j hj=>by
  obtain⟨p,hp,rfl⟩:=List.mem_map.1 hj
  exact Q1y hk' (hTo p hp)
 have hroot:OkTr (erT T):=by
  rw[hTe]
  exact (Q4r (Q3r hc) (he.t t1.k t1.ne)).tr
 have hcall:=Qac (grow Lx) hr.lo hr.lp T o2 k (k+1) (k+2) H (s0F H) (List.replicate H none) ⟨g0,⟨0,[],g1,IMOk.nil⟩,g2,by simp,by simp[s0F],by omega⟩ (NV0 H) hr.lb (fun _ _=>rfl) hroot (hTo.frame fun j hj=>g4 j (hTk j hj))
  (fun h => by have := hTk _ h; omega) (fun h => by have := hTk _ h; omega) (fun h => by have := hTk _ h; omega) g5
 show AOps _ _ _ _ _ ⟨4,[],ouAdd o1 k [.cells [int (H:Nat),.mp (.o (k+1)),.arr (.o (k+2)) 1 0 H H],.map 0 (encI eN []),.cells (List.replicate H (.lit (.pointer none)))]⟩
 rw[←ho2]
 refine AOps.call1 hΓc rfl rfl rfl rfl rfl rfl rfl (by simp[FV.ids,idsF,AC.ids,isO]) g5 hcall fun r o3 hq3 hids3 ho3=>?_
 obtain⟨rfl,_,hfr,_⟩:=hq3
 refine AOps.lessO ⟨4,[],ou⟩ rfl (fun i o hi=>?_) ?_
 ·cases i with
  |l m=>cases hi
  |o m=>
   have hm:ou m=some o:=hi
   have h1:=hTold m o hm
   have hmk:m < k:=Q1y hk' h1
   show o3 m=some o
   rw[hfr m (by omega) (by omega),g4 m hmk];exact h1
 refine zA ?_
 rw[hTe]
 exact APure.fin rfl (.refl _) (by simp) hou rfl
end Go.Proofs.YthboaankaaeemaaDoor
namespace Go.CoreX
mutual
theorem Q9k(L D:Tr):∀t:Tr,DropR L D t t
 |.mk o n b ks a=>.node (Q4w L D ks)
theorem Q4w(L D:Tr):∀l:List Tr,DropRs L D l l
 |[]=>.nil
 |t::l=>.cons (Q9k L D t) (Q4w L D l)
end
theorem Qca{L D t t':Tr}(h:DropR L D t t'):∀l r:List Tr,DropRs L D (l++t::r) (l++t'::r)
 |[],r=>.cons h (Q4w L D r)
 |u::l,r=>.cons (Q9k L D u) (Qca h l r)
theorem Qbg{L D:Tr}:∀{t t':Tr},OneR L D t t'->DropR L D t t'
 |_,_,.here=>.here
 |_,_,.kid (l:=l) (r:=r) h=>.node (Qca (Qbg h) l r)
theorem Qe2{p:Lab->Prop}{L D:Tr}:∀{t t':Tr},OneR L D t t'->allT p t->allT p L
 |_,_,.here,h=>h
 |_,_,.kid (l:=l) (r:=r) h,ha=>Qe2 h (Q3s.1 ha.2 _ (by simp))
theorem Qe0{L D:Tr}(hD:okT D):∀{t t':Tr},OneR L D t t'->okT t->okT t'
 |_,_,.here,_=>hD
 |_,_,.kid (l:=l) (r:=r) h,⟨h1,h2,h3,h4,h5⟩=>by
  have h6:=Q1l.1 h5
  refine⟨h1,by simpa using h2,h3,h4,Q1l.2 fun s hs=>?_⟩
  simp only[List.mem_append,List.mem_cons]at hs
  rcases hs with hs|hs|hs
  ·exact h6 s (by simp[hs])
  ·rw[hs];exact Qe0 hD h (h6 _ (by simp))
  ·exact h6 s (by simp[hs])
theorem Qe1{L D:Tr}:∀{t t':Tr},OneR L D t t'->okT t->okT L
 |_,_,.here,h=>h
 |_,_,.kid (l:=l) (r:=r) h,ha=>Qe1 h (Q1l.1 ha.2.2.2.2 _ (by simp))
theorem Q83{s:Tr}:∀{l:List Tr},s∈l->cntN s<=cntNs l
 |u::l,h=>by
  simp only[cntNs]
  rcases List.mem_cons.1 h with rfl|h
  ·omega
  ·have:=Q83 h;omega
theorem Qch{s:Tr}:∀{l:List Tr},s∈l->(bndT s).Sublist (bndTs l)
 |u::l,h=>by
  simp only[bndTs]
  rcases List.mem_cons.1 h with rfl|h
  ·exact List.sublist_append_left _ _
  ·exact (Qch h).trans (List.sublist_append_right _ _)
theorem Qe7{sc:List Int}{o:Int}{b:List Int}{a:List Alt}{s:Tr}:∀{l:List Tr}{i j:Nat},l[j]?=some s->occTs sc o b a i l=[]->occT (Q1x o b a ((i+j:Nat):Int)++sc) s=[]
 |[],i,j,h,_=>by simp at h
 |u::l,i,0,h,ho=>by
  simp at h;subst h
  simp only[occTs,List.append_eq_nil_iff]at ho
  exact ho.1
 |u::l,i,j+1,h,ho=>by
  simp only[occTs,List.append_eq_nil_iff]at ho
  have:=Qe7 (i:=i+1) (j:=j) (by simpa using h) ho.2
  rwa [show i+1+j=i+(j+1) by omega]at this
theorem Qbu{o n:Int}{b:List Int}{ks:List Tr}{a:List Alt}{D root root':Tr}{j:Nat}(hj:ks[j]?=some D)(hb:Q1x o b a (j:Int)=[])(h2:o≠2)(hr:OneR (.mk o n b ks a) D root root')(hc:check (listT [] root)=0):check (listT [] root')=0:=by
 have hm:=List.mem_of_getElem? hj
 have hp:=Q9o hc
 rw[Q0c]at hp
 have hpt:=Qe2 hr hp
 refine Qdc hc (Qbg hr) h2 (Q3s.1 hpt.2 D hm) ?_ ?_ ?_ fun sc h=>?_
 ·have:=Q83 hm;simp only[cntN];omega
 ·exact Q9m (t:=.mk o n b ks a) hm
 ·exact (Qch hm).trans (List.sublist_append_right _ _)
 ·simp only[occT,List.append_eq_nil_iff]at h
  have:=Qe7 (i:=0) hj h.2
  simpa[hb]using this
theorem Qi6{t D:Tr}(h:replF Q0e t=some D):t.op=8/\t.binds=[]/\t.alts=[]/\t.kids[0]?=some D:=by
 unfold replF at h
 split at h
 ·rename_i hm
  obtain⟨x,y,⟨k,z,e1,e2⟩,y1,y2,y3,y4,y5,hf⟩:=Q9v hm
  have hm2:(Q08 1 Q0e.l t (s0F 1)).1=true:=hm
  obtain⟨p1,p2,p3,p4,p5,p6⟩:=Q19 (o:=8) hm2 (by decide)
  have p6:Q08 1 Q0e.l t (s0F 1)=_:=p6
  rw[p6,e1]at hm2
  obtain⟨m1,_,_⟩:=Q20 hm2
  obtain⟨k1,k2,k3,k4,k5,_⟩:=Q19 (o:=8) m1 (by decide)
  have hf2:(Q08 (Q0e.holes:Int) Q0e.l t (s0F Q0e.holes)).2.fd=[some x]:=hf
  rw[hf2]at h
  cases h
  refine⟨p1,List.length_eq_zero_iff.1 p4,List.length_eq_zero_iff.1 p5,?_⟩
  rw[e1]
  obtain⟨ko,kn,kb,kk,ka⟩:=k
  obtain⟨yo,yn,yb,yk,ya⟩:=y
  simp only[Tr.op_mk,Tr.n_mk,Tr.binds_mk,Tr.kids_mk,Tr.alts_mk]at k1 k2 k4 k5 e2 y1 y2 y3 y4 y5
  have k4:=List.length_eq_zero_iff.1 k4
  have k5:=List.length_eq_zero_iff.1 k5
  subst y1;subst y2;subst y3;subst y4;subst y5;subst k1;subst k2;subst k4;subst k5;subst e2
  rfl
 ·cases h
theorem Qie{t D:Tr}(h:replF Q0g t=some D):t.op=4/\t.alts=[]/\t.kids[0]?=some D:=by
 unfold replF at h
 split at h
 ·rename_i hm
  obtain⟨x,y,e1,hf⟩:=Qa5 hm
  have hm2:(Q08 1 Q0g.l t (s0F 1)).1=true:=hm
  obtain⟨p1,p2,p3,p4,p5,_⟩:=Q19 (o:=4) hm2 (by decide)
  have hf2:(Q08 (Q0g.holes:Int) Q0g.l t (s0F Q0g.holes)).2.fd=[some x]:=hf
  rw[hf2]at h
  cases h
  exact⟨p1,List.length_eq_zero_iff.1 p5,by rw[e1];rfl⟩
 ·cases h
end Go.CoreX
namespace Go.Proofs.YthboaankaaeemaaDoor
open Go Go.Abs Go.CoreX
def RLs:RuL:=[(1,listT [] Q0e.l,listT [] Q0e.r),(1,listT [] Q0g.l,listT [] Q0g.r)]
theorem Qa7:rfL RLs=Q48:=by
 simp only[rfL,RLs,List.map_cons,List.map_nil,Q0c]
 rfl
theorem Q27{T:Tr}(h:okT T)(hc:cntN T<=1048576):okB (listT [] T):=Qe6 (Qd1 _ h) hc
theorem Qge(H:Nat)(L R:Tr)(h:H<=1)(h1:okT L)(h2:cntN L<=1048576)(h3:allT posV L)(h4:(bndT L).Nodup)(h5:L.op≠0)(h6:okT R)(h7:cntN R<=1048576)(h8:noB (listT [] R))(h9:nobT R)(h10:allT posV R)(h11:hcTs (H:Nat) [R]<=1)
  (h12:∀t,(Q08 (H:Nat) L t (s0F H)).1=true->none∉(Q08 (H:Nat) L t (s0F H)).2.fd):RuOk H (listT [] L) (listT [] R) where
 h:=h
 le:=(Q27 h1 h2).eo
 lk:=(Q16 L).k
 ln:=(Q16 L).ne
 lo:=by rw[Q0c];exact h1
 lp:=by rw[Q0c];exact h3
 lb:=by rw[Q0c];exact h4
 lr:=by rw[Q0c];exact h5
 re:=(Q27 h6 h7).eo
 rt:=Q16 R
 rb:=h8
 rn:=by rw[Q0c];exact h9
 rp:=by rw[Q0c];exact h10
 rc:=by rw[Q0c];exact h11
 fd:=by rw[Q0c];exact h12
theorem Qgc:RuOk 1 (listT [] Q0e.l) (listT [] Q0e.r):=
 Qge 1 Q0e.l Q0e.r (Nat.le_refl _) (by simp[Q0e,vT,wT,okT,okTs]) (by simp[Q0e,vT,wT,cntN,cntNs]) (by simp[Q0e,vT,wT,allT,allTs,posV]) (by simp[Q0e,vT,wT,bndT,bndTs,Q04]) (by simp[Q0e]) (by simp[Q0e,vT,wT,okT,okTs]) (by simp[Q0e,vT,wT,cntN,cntNs])
  (fun x hx => by simp [Q0e, vT, wT, listT, Q01] at hx; rcases hx with rfl | rfl | rfl <;> exact ⟨rfl, rfl⟩) (by simp [Q0e, vT, wT, nobT, nobTs]) (by simp [Q0e, vT, wT, allT, allTs, posV]) (by decide)
  fun t ht hn=>by
   obtain⟨x,y,_,_,_,_,_,_,hf⟩:=Q9v (t:=t) ht
   have hf2:(Q08 ((1:Nat):Int) Q0e.l t (s0F 1)).2.fd=[some x]:=hf
   rw[hf2]at hn
   simp at hn
theorem Qgd:RuOk 1 (listT [] Q0g.l) (listT [] Q0g.r):=
 Qge 1 Q0g.l Q0g.r (Nat.le_refl _) (by simp[Q0g,vT,wT,okT,okTs]) (by simp[Q0g,vT,wT,cntN,cntNs]) (by simp[Q0g,vT,wT,allT,allTs,posV]) (by simp[Q0g,vT,wT,bndT,bndTs,Q04]) (by simp[Q0g]) (by simp[Q0g,vT,wT,okT,okTs]) (by simp[Q0g,vT,wT,cntN,cntNs])
  (fun x hx => by simp [Q0g, vT, wT, listT, Q01] at hx; subst hx; exact ⟨rfl, rfl⟩) (by simp [Q0g, vT, wT, nobT, nobTs]) (by simp [Q0g, vT, wT, allT, allTs, posV]) (by decide)
  fun t ht hn=>by
   obtain⟨x,y,_,hf⟩:=Qa5 (t:=t) ht
   have hf2:(Q08 ((1:Nat):Int) Q0g.l t (s0F 1)).2.fd=[some x]:=hf
   rw[hf2]at hn
   simp at hn
theorem Qif:RuC 1 (listT [] Q0e.l) (listT [] Q0e.r) :=
 ⟨by omega, Q27 (by simp [Q0e, vT, wT, okT, okTs]) (by simp [Q0e, vT, wT, cntN, cntNs]), Q27 (by simp [Q0e, vT, wT, okT, okTs]) (by simp [Q0e, vT, wT, cntN, cntNs]), by kernel_rfl, by kernel_rfl, ⟨_, rfl, by decide⟩, fun i hi => by
  have:i=0:=by omega
  subst this;exact⟨by decide,by decide⟩⟩
theorem Qig:RuC 1 (listT [] Q0g.l) (listT [] Q0g.r) :=
 ⟨by omega, Q27 (by simp [Q0g, vT, wT, okT, okTs]) (by simp [Q0g, vT, wT, cntN, cntNs]), Q27 (by simp [Q0g, vT, wT, okT, okTs]) (by simp [Q0g, vT, wT, cntN, cntNs]), by kernel_rfl, by kernel_rfl, ⟨_, rfl, by decide⟩, fun i hi => by
  have:i=0:=by omega
  subst this;exact⟨by decide,by decide⟩⟩
theorem RLs_C:∀r∈RLs,RuC r.1 r.2.1 r.2.2:=fun r hr=>by
 simp only[RLs,List.mem_cons,List.not_mem_nil,or_false]at hr
 rcases hr with rfl|rfl
 ·exact Qif
 ·exact Qig
theorem RLs_ru:∀r∈RLs,RuOk r.1 r.2.1 r.2.2:=fun r hr=>by
 simp only[RLs,List.mem_cons,List.not_mem_nil,or_false]at hr
 rcases hr with rfl|rfl
 ·exact Qgc
 ·exact Qgd
theorem kid_ok{o n:Int}{b:List Int}{ks:List Tr}{a:List Alt}{D root root':Tr}(hj:ks[0]?=some D)(hr:OneR (.mk o n b ks a) D root root')(hP:okT root):okT root':=
 Qe0 (Q1l.1 (Qe1 hr hP).2.2.2.2 D (List.mem_of_getElem? hj)) hr hP
theorem Qhv:VR RLs okT where
 len:=by simp[RLs]
 ru:=RLs_ru
 ok:=fun T h=>h
 step:=fun r hr t D root root' hD hO hc hP=>by
  rw[Qa7]at hr
  simp only[Q48,List.mem_cons,List.not_mem_nil,or_false]at hr
  obtain⟨o,n,b,ks,a⟩:=t
  rcases hr with rfl|rfl
  ·obtain⟨h1,h2,h3,h4⟩:=Qi6 hD
   simp only[Tr.op_mk,Tr.binds_mk,Tr.alts_mk,Tr.kids_mk]at h1 h2 h3 h4
   subst h1;subst h2;subst h3
   exact⟨Qbu (j:=0) h4 (by simp[Q1x]) (by decide) hO hc,kid_ok h4 hO hP⟩
  ·obtain⟨h1,h3,h4⟩:=Qie hD
   simp only[Tr.op_mk,Tr.alts_mk,Tr.kids_mk]at h1 h3 h4
   subst h1;subst h3
   exact⟨Qbu (j:=0) h4 (by simp[Q1x]) (by decide) hO hc,kid_ok h4 hO hP⟩
theorem Q6l:APure Tryd.prog Γc 23 [] (.one (.sl 3 (cRL RLs))):=by
 intro ou
 refine AFn.walk 29 tabOk Tryd.func23 rfl (by kernel_rfl) rfl rfl fun hou=>?_
 refine zA ?_
 refine zca hΓc (V_ok hΓc 0) hou ?_
 refine zA ?_
 refine zca hΓc (W_ok hΓc 0) hou ?_
 refine zA ?_
 refine zca hΓc (N_ok 8 0 [vT 0,wT 0]) hou ?_
 refine zA ?_
 refine zca hΓc (W_ok hΓc 1) hou ?_
 refine zA ?_
 refine zca hΓc (N_ok 8 2 [.mk 8 0 [] [vT 0,wT 0] [],wT 1]) hou ?_
 refine zA ?_
 have hsz:∀{T:Tr},cntN T<=1048576->(listT [] T).length<=1048576:=fun {T} h=>by
  have:=Q2a T []
  simp only[List.length_nil]at this
  omega
 refine zca hΓc (Q2j hΓc Q0e.l (by simp[Q0e,vT,wT,okT,okTs]) (hsz (by simp[Q0e,vT,wT,cntN,cntNs]))) hou ?_
 refine zA ?_
 refine zca hΓc (V_ok hΓc 0) hou ?_
 refine zA ?_
 refine zca hΓc (W_ok hΓc 0) hou ?_
 refine zA ?_
 refine zca hΓc (N_ok 8 0 [vT 0,wT 0]) hou ?_
 refine zA ?_
 refine zca hΓc (Q2j hΓc Q0e.r (by simp[Q0e,vT,wT,okT,okTs]) (hsz (by simp[Q0e,vT,wT,cntN,cntNs]))) hou ?_
 refine zA ?_
 refine zca hΓc (V_ok hΓc 0) hou ?_
 refine zA ?_
 refine zca hΓc (V_ok hΓc 1) hou ?_
 refine zA ?_
 refine zca hΓc (B_ok 4 [1] [vT 0,vT 1]) hou ?_
 refine zA ?_
 refine zca hΓc (Q2j hΓc Q0g.l (by simp[Q0g,vT,wT,okT,okTs]) (hsz (by simp[Q0g,vT,wT,cntN,cntNs]))) hou ?_
 refine zA ?_
 refine zca hΓc (V_ok hΓc 0) hou ?_
 refine zA ?_
 refine zca hΓc (Q2j hΓc Q0g.r (by simp[Q0g,vT,wT,okT,okTs]) (hsz (by simp[Q0g,vT,wT,cntN,cntNs]))) hou ?_
 refine zA ?_
 exact APure.fin rfl (.refl _) (by simp) hou rfl
def factF:Tr:=.mk 4 0 [5] [wT 3,vT 5] []
theorem Qhh:fuseE RLs (listT [] factF)=(wT 3,1):=by
 unfold fuseE
 rw[Qa7,Q0c]
 kernel_rfl
theorem Q7v:APure Tryd.prog Γc 14 [] (.one (.lit (.bool true))):=by
 have hsz:∀{T:Tr},cntN T<=1048576->(listT [] T).length<=1048576:=fun {T} h=>by
  have:=Q2a T []
  simp only[List.length_nil]at this
  omega
 have hoF:okT factF:=by simp[factF,vT,wT,okT,okTs]
 have hrun:APure Tryd.prog Γc 18 [.one (.sl 5 ((listT [] factF).map cEx)),.one (.sl 3 (cRL RLs))] (.tup [.one (.sl 5 ((listT [] (wT 3)).map cEx)),.one (int 1),.one (int 0)]):=by
  have h:=Q5z RLs okT Qhv RLs_C (listT [] factF) (Q27 hoF (by simp[factF,vT,wT,cntN,cntNs])) (by kernel_rfl) (by rw[Q0c];exact hoF)
  rw[Qhh]at h
  exact h
 intro ou
 refine AFn.walk 30 tabOk Tryd.func14 rfl (by kernel_rfl) rfl rfl fun hou=>?_
 refine zA ?_
 refine zca hΓc (W_ok hΓc 3) hou ?_
 refine zA ?_
 refine zca hΓc (V_ok hΓc 5) hou ?_
 refine zA ?_
 refine zca hΓc (B_ok 4 [5] [wT 3,vT 5]) hou ?_
 refine zA ?_
 refine zca hΓc (Q2j hΓc factF hoF (hsz (by simp[factF,vT,wT,cntN,cntNs]))) hou ?_
 refine zA ?_
 refine zca hΓc Q6l hou ?_
 refine zA ?_
 refine zca hΓc hrun hou ?_
 refine zM ?_
 refine zca hΓc (W_ok hΓc 3) hou ?_
 refine AOps.callG hΓc (Q2j hΓc (wT 3) (by simp[wT,okT,okTs]) (hsz (by simp[wT,cntN,cntNs]))) rfl rfl rfl rfl rfl rfl rfl rfl rfl hou (by simp) ?_
 refine AOps.callG hΓc (Qco hΓc (listT [] (wT 3)) (Q27 (by simp[wT,okT,okTs]) (by simp[wT,cntN,cntNs])).eo) rfl rfl rfl rfl rfl rfl rfl rfl rfl hou (by simp) ?_
 refine zM ?_
 exact APure.fin rfl (.refl _) (by simp) hou rfl
set_option linter.unusedSectionVars false
section keep
variable {R:List RuF}{lim:Nat}{G:Tr->Prop}(hG:∀r∈R,∀t D root root',replF r t=some D->OneR t D root root'->G root->G root')
include hG
theorem Qbp{C:Tr->Tr}(hC:∀L D a b,OneR L D a b->OneR L D (C a) (C b)):∀(n:Nat)(t:Tr)(s:Nat),G (C t)->G (C (loopF R lim n t s).1)
 |0,t,s,h=>h
 |n+1,t,s,h=>by
  unfold loopF
  split
  ·exact h
  cases hx:stepF R t with
  |none=>exact h
  |some t'=>
   unfold stepF at hx
   obtain⟨r,hr,hD⟩:=List.exists_of_findSome?_eq_some hx
   exact Qbp hC n t' (s+1) (hG r hr t t' _ _ hD (hC _ _ _ _ .here) h)
mutual
theorem Qb0:∀(t:Tr)(s:Nat)(C:Tr->Tr),(∀L D a b,OneR L D a b->OneR L D (C a) (C b))->G (C t)->G (C (walkF R lim t s).1)
 |.mk o n b ks a,s,C,hC,h=>by
  simp only[walkF]
  exact Qbp hG hC _ _ _ (Q8g ks s o n b a [] C hC h)
theorem Q8g:∀(l:List Tr)(s:Nat)(o n:Int)(b:List Int)(a:List Alt)(pre:List Tr)(C:Tr->Tr),(∀L D a b,OneR L D a b->OneR L D (C a) (C b))->G (C (.mk o n b (pre++l) a))->G (C (.mk o n b (pre++(Q14 R lim l s).1) a))
 |[],s,o,n,b,a,pre,C,hC,h=>h
 |t::l,s,o,n,b,a,pre,C,hC,h=>by
  simp only[Q14]
  have h1:=Qb0 t s (fun x=>C (.mk o n b (pre++x::l) a)) (fun L D x y hxy=>hC _ _ _ _ (.kid hxy)) h
  have h2:=Q8g l (walkF R lim t s).2 o n b a (pre++[(walkF R lim t s).1]) C hC (by rw[List.append_assoc];exact h1)
  rw[List.append_assoc]at h2
  exact h2
end
end keep
theorem Qhc{RL:RuL}{P:Tr->Prop}(hV:VR RL P){e:List Ex}(hc:check e=0)(hP:P (grow e)):check (listT [] (fuseE RL e).1)=0/\P (fuseE RL e).1:=
 Qb0 (G:=fun T=>check (listT [] T)=0/\P T) (fun r hr t D root root' hD hO h=>hV.step r hr t D root root' hD hO h.1 h.2) (grow e) 0 _root_.id (fun _ _ _ _ h=>h) ⟨Q3r hc,hP⟩
theorem VR_nil:VR [] okT:=⟨by simp,fun r hr=>by simp at hr,fun _ h=>h,fun r hr=>by simp[rfL]at hr⟩
theorem Qja(e:List Ex):fuseE [] e=(grow e,0):=Qb2 200 (grow e) 0
theorem Qbo{R:List RuF}:∀{l:List Tr},noMAs R l->∀t∈l,noMA R t
 |u::l,h,t,ht=>by
  rcases List.mem_cons.1 ht with rfl|ht
  ·exact h.1
  ·exact Qbo h.2 t ht
theorem part_ok{e:List Ex}(hc:check e=0)(ho:okT (grow e)):check (listT [] (fuseE RLs e).1)=0/\okB (listT [] (fuseE RLs e).1)/\
  ∀k,k < (listT [] (fuseE RLs e).1).length->okT (Q0t (listT [] (fuseE RLs e).1) k)/\cntN (Q0t (listT [] (fuseE RLs e).1) k)<=4096/\((fuseE RLs e).2 < 200->noM Q48 (Q0t (listT [] (fuseE RLs e).1) k)):=by
 obtain⟨h1,h2⟩:=Qhc Qhv hc ho
 have hr:=Q4r h1 h2
 refine⟨h1,hr.b,fun k hk=>?_⟩
 have h3:(fuseE RLs e).2 < 200->noMA Q48 (fuseE RLs e).1:=fun h=>by
  have:=Qb1 Qfl (lim:=200) (grow e) 0
  unfold fuseE at h ⊢
  rw[Qa7]at h ⊢
  exact this h
 have h4:=Qfz (P:=fun t=>okT t/\cntN t<=4096/\((fuseE RLs e).2 < 200->noMA Q48 t)) (Q16 (fuseE RLs e).1) (by rw[Q0c];exact⟨h2,hr.cnt,h3⟩) (fun t s hP hs=>by
  obtain⟨o,n,b,ks,a⟩:=t
  simp only[Tr.kids_mk]at hs
  refine⟨Q1l.1 hP.1.2.2.2.2 s hs,?_,fun h=>Qbo (hP.2.2 h).2 s hs⟩
  have:=Q83 hs
  have h5:=hP.2.1
  simp only[cntN]at h5
  omega) k hk
 exact⟨h4.1,h4.2.1,fun h=>(Q58.1 (h4.2.2 h)).1⟩
theorem Qcp(e:List Ex)(he:okB e):APure Tryd.prog Γc 6 [.one (.sl 5 (e.map cEx))] (.one (.lit (.bool true))):=by
 intro ou
 refine AFn.walk 94 tabOk Tryd.func6 rfl (by kernel_rfl) rfl rfl fun hou=>?_
 have hcl:(cRL RLs).length=2:=rfl
 by_cases h:check e=0
 ·have hokT:okT (grow e):=he.t (Q12 h).k (Q12 h).ne
  have hrun:=Q5z RLs okT Qhv RLs_C e he h hokT
  have hrun0:=Q5z [] okT VR_nil (fun r hr=>by simp at hr) e he h hokT
  rw[Qja]at hrun0
  dsimp only at hrun0
  rw[show ((0:Nat):Int)=0 from rfl]at hrun0
  obtain⟨hck,hob,hpart⟩:=part_ok h hokT
  have hbg:okB (listT [] (grow e)):=(Q4r (Q3r h) hokT).b
  have hsame:same e (listT [] (grow e))=true:=by simp[same,h,Q3r h,Q0c,Qa6]
  obtain⟨st,hst⟩:∃st,st=(fuseE RLs e).2:=⟨_,rfl⟩
  obtain⟨f,hf⟩:∃f,f=listT [] (fuseE RLs e).1:=⟨_,rfl⟩
  rw[←hst,←hf]at hrun hpart
  rw[←hf]at hck hob
  have hfl:=hob.eo.l
  refine zA ?_
  refine zca hΓc Q6l hou ?_
  refine zA ?_
  refine zca hΓc hrun hou ?_
  refine zA ?_
  refine zca hΓc (fun ou=>(hrun0 ou).wkArgs (.cons (.refl _) (.cons (.one (.nilS 3)) .nil))) hou ?_
  refine zM ?_
  refine zca hΓc (Same_ok e (listT [] (grow e)) he hbg hsame) hou ?_
  refine zM ?_
  refine zca hΓc Q7v hou ?_
  refine zM ?_
  refine ACode.loopR hΓc (α:=Nat) (fun j=>[(55,.one (int j)),(54,.one (int (f.map cEx).length)),(3,.one (.sl 5 (f.map cEx))),(4,.one (int (st:Nat)))]) (fun j=>⟨0,[],ou⟩) (fun m j=>j<=f.length/\m=f.length - j) (a0:=0) (ρ:=_root_.id) ⟨by omega,rfl⟩
   (LessR.of rfl zFS (by simp) zLO rfl rfl hou) fun m j hj => ?_
  obtain⟨hjl,rfl⟩:=hj
  refine zA ?_
  refine ACode.cond rfl (fun hb=>?_) (fun hb=>?_)
  ·have hlt:j < f.length:=by simp at hb;omega
   obtain⟨hpt,hpc,hpn⟩:=hpart j hlt
   have hcut:cutAt f (j:Nat)=(listT [] (Q0t f j),0):=by
    unfold cutAt
    have h1:atErr f (j:Nat)=0:=by
     unfold atErr
     rw[if_neg (by simpa using hck),if_neg (by omega)]
    rw[if_neg (by simpa using h1)]
    rfl
   have hc:=Cut_ok f hob (j:Nat)
   rw[hcut]at hc
   dsimp only at hc
   obtain⟨p,hp⟩:∃p,p=listT [] (Q0t f j):=⟨_,rfl⟩
   have hpb:okB p:=by rw[hp];exact Q27 hpt (by omega)
   have hpg:grow p=Q0t f j:=by rw[hp,Q0c]
   rw[←hp]at hc
   refine zA ?_
   refine zca hΓc hc hou ?_
   refine zM ?_
   refine zca hΓc (Q3g p hpb) hou ?_
   refine zM ?_
   refine ACode.cond rfl (fun hb2=>?_) (fun hb2=>?_)
   ·refine zM ?_
    exact cInv ⟨f.length - (j+1),j+1,_root_.id,by omega,⟨by omega,rfl⟩,LessR.of rfl zFS (by simp) zLO rfl rfl hou⟩
   ·have hpz:check p=0:=by simpa using hb2
    refine zA ?_
    refine zca hΓc Q6l hou ?_
    refine zA ?_
    refine ACode.loopR hΓc (α:=Nat) (fun k=>[(73,.one (int k)),(72,.one (int (cRL RLs).length)),(71,.one (.sl 3 (cRL RLs))),(10,.one (.sl 5 (p.map cEx))),(55,.one (int j)),(54,.one (int (f.map cEx).length)),(3,.one (.sl 5 (f.map cEx))),(4,.one (int (st:Nat)))]) (fun k=>⟨0,[],ou⟩) (fun m k=>k<=2/\m=2 - k) (a0:=0) (ρ:=_root_.id) ⟨by omega,rfl⟩
     (LessR.of rfl zFS (by simp) zLO rfl rfl hou) fun m k hk => ?_
    obtain⟨hkl,rfl⟩:=hk
    refine zA ?_
    refine ACode.cond rfl (fun hb3=>?_) (fun hb3=>?_)
    ·have hlt2:k < RLs.length:=by
      have h1:(k:Int) < ((cRL RLs).length:Nat):=of_decide_eq_true hb3
      have h2:RLs.length=2:=rfl
      omega
     have hk2:k < 2:=hlt2
     obtain⟨⟨H,Lx,Rx⟩,hru⟩:=Q00 hlt2
     have hrc:(cRL RLs)[k]?=some (cRu H Lx Rx):=by simp[cRL,hru]
     have hR1:=RLs_ru _ (List.mem_of_getElem? hru)
     have hR2:=RLs_C _ (List.mem_of_getElem? hru)
     dsimp only at hR1 hR2
     have hm:=Qc4 H Lx Rx hR1 hR2 p hpb hpz
     have hno:st < 200->matF ⟨H,grow Lx,grow Rx⟩ (grow p)=false:=fun h=>by
      rw[hpg]
      refine hpn h _ ?_
      rw[←Qa7]
      exact List.mem_map_of_mem (f:=fun r:Nat×List Ex×List Ex=>(⟨r.1,grow r.2.1,grow r.2.2⟩:RuF)) (List.mem_of_getElem? hru)
     obtain⟨mb,hmb⟩:∃mb,mb=matF ⟨H,grow Lx,grow Rx⟩ (grow p):=⟨_,rfl⟩
     rw[←hmb]at hm hno
     refine zA ?_
     refine zS (zIA rfl rfl rfl (by omega) hrc) ?_
     refine zA ?_
     refine zca hΓc hm hou ?_
     cases mb with
     |false=>
      refine zM ?_
      exact cInv ⟨2 - (k+1),k+1,_root_.id,by omega,⟨by omega,rfl⟩,LessR.of rfl zFS (by simp) zLO rfl rfl hou⟩
     |true=>
      have hge:¬((st:Int) < 200):=fun h=>by have:=hno (by omega);cases this
      refine zM ?_
      refine ACode.cond rfl (fun hb4=>?_) (fun hb4=>?_)
      ·exact absurd (by simpa using hb4) hge
      ·refine zM ?_
       exact cInv ⟨2 - (k+1),k+1,_root_.id,by omega,⟨by omega,rfl⟩,LessR.of rfl zFS (by simp) zLO rfl rfl hou⟩
    ·refine zM ?_
     exact cInv ⟨f.length - (j+1),j+1,_root_.id,by omega,⟨by omega,rfl⟩,LessR.of rfl zFS (by simp) zLO rfl rfl hou⟩
  ·refine zA ?_
   exact APure.fin rfl (.refl _) (by simp) hou rfl
 ·refine zA ?_
  refine zca hΓc Q6l hou ?_
  refine zA ?_
  refine zca hΓc (Q7u RLs e he h) hou ?_
  refine zA ?_
  refine zca hΓc (fun ou=>((Q7u [] e he h) ou).wkArgs (.cons (.refl _) (.cons (.one (.nilS 3)) .nil))) hou ?_
  refine zA ?_
  refine ACode.cond rfl (fun hb=>?_) (fun hb=>?_)
  ·refine zA ?_
   refine zca hΓc Q7v hou ?_
   refine zM ?_
   exact APure.fin rfl (.ofEq (by simp)) (by simp) hou rfl
  ·exact absurd (by simpa using hb) h
end Go.Proofs.YthboaankaaeemaaDoor
