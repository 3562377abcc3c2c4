/- A copy of a frozen tree, walked; several nodes of an own tree are replaced. -/
import Derived.Test.YtpaonemmbhbgoaaGreatDoorR10
set_option maxRecDepth 10000
set_option linter.unusedVariables false
set_option linter.unusedSimpArgs false
namespace Go.CoreX
mutual
def putsL (f:Nat->Option LTr):LTr->LTr
 |.mk i o n nb b ks a=>match f i with
  |some u=>u
  |none=>.mk i o n nb b (Q4t f ks) a
def Q4t (f:Nat->Option LTr):List LTr->List LTr
 |[]=>[]
 |t::l=>putsL f t::Q4t f l
end
theorem Qcj{f:Nat->Option LTr}(hf:∀k u,f k=some u->u.id=k):∀t:LTr,(putsL f t).id=t.id
 |.mk i o n nb b ks a=>by
  simp only[putsL]
  split
  ·rename_i u hu;exact hf i u hu
  ·rfl
end Go.CoreX
namespace Go.Proofs.YtpaonemmbhbgoaaGreatDoor
open Go Go.Abs Go.CoreX
variable {Γ:List (Nat×List AC)}
theorem Qms(hΓ:∀g cs,(g,cs)∈Γ->idsL isO cs)(T:Tr)(hT:okT T)(hl:cntN T<=1048576)(ou:Outer):AFn Tryz.prog Γ 131 [.one (.box (cTr T))] ou (GrowQ (listT [] T) ou):=by
 have hll:(listT [] T).length<=1048576:=by have:=Q27 T [];simp at this;omega
 have hli:=Qaq hΓ T hT hll
 refine AFn.walk 6 tabOk Tryz.func131 rfl (by kernel_rfl) rfl rfl fun hou=>?_
 refine zA ?_
 refine zca hΓ hli hou ?_
 refine AOps.call1 hΓ rfl rfl rfl rfl rfl rfl rfl (by simp) hou (Qiy hΓ _ (Q4h (Q40 T hT) hl).eo (Q16 T).k (Q16 T) ou) fun r ou' hq hids hou'=>?_
 obtain⟨t,rfl,h⟩:=hq
 refine zA ?_
 exact AFn.fin' rfl (WkF.refl _) (by simp) hou' ⟨t,rfl,h⟩
theorem Qhj{f:Nat->Option LTr}(hf:∀k u,f k=some u->u.id=k):∀l:List LTr,kC (Q4t f l)=kC l
 |[]=>rfl
 |t::l=>by
  have:=Qhj hf l
  simp only[kC,Q4t,List.map_cons,Qcj hf]at this ⊢
  rw[this]
mutual
theorem Qj7{f:Nat->Option LTr}:∀t:LTr,(∀k∈keys (objs t),f k=none)->putsL f t=t
 |.mk i o n nb b ks a,h=>by
  simp only[objs,keys,List.cons_append,List.map_cons,List.map_append,List.mem_cons,List.mem_append]at h
  simp only[putsL,h i (.inl rfl)]
  rw[Q64 ks fun k hk=>h k (.inr (.inr hk))]
theorem Q64{f:Nat->Option LTr}:∀l:List LTr,(∀k∈keys (objss l),f k=none)->Q4t f l=l
 |[],_=>rfl
 |t::l,h=>by
  simp only[objss,keys,List.map_append,List.mem_append]at h
  simp only[Q4t]
  rw[Qj7 t fun k hk=>h k (.inl hk),Q64 l fun k hk=>h k (.inr hk)]
end
theorem Qhk{nb:Nb}{b:List Int}(h:nb=none):bO nb b=[]:=by subst h;rfl
theorem Q6s:∀{a:List LAlt},(∀x∈a,x.nb=none)->aO a=[]
 |[],_=>rfl
 |x::a,h=>by
  rw[show aO (x::a)=bO x.nb x.binds++aO a from rfl,Qhk (h x (by simp)),Q6s fun y hy=>h y (by simp[hy])];rfl
mutual
theorem Q8p{f:Nat->Option LTr}(hf:∀k u,f k=some u->u.id=k):∀t:LTr,Q24 t->∀p∈objs (putsL f t),(∃k u,k∈keys (objs t)/\f k=some u/\p∈objs u)∨(p∈objs t/\f p.1=none)
 |.mk i o n nb b ks a,hpl,p,hp=>by
  simp only[putsL]at hp
  cases hfi:f i with
  |some u=>
   rw[hfi]at hp
   exact .inl ⟨i,u,by simp[objs,keys],hfi,hp⟩
  |none=>
   rw[hfi]at hp
   simp only[objs,Qhj hf,Qhk hpl.1,Q6s hpl.2.1,List.append_nil,List.cons_append,List.nil_append,List.mem_cons]at hp ⊢
   rcases hp with rfl|hp
   ·exact .inr ⟨.inl rfl,hfi⟩
   ·rcases Qe9 hf ks hpl.2.2 p hp with ⟨k,u,h1,h2,h3⟩|⟨h1,h2⟩
    ·exact .inl ⟨k,u,by simp[keys]at h1 ⊢;exact .inr h1,h2,h3⟩
    ·exact .inr ⟨.inr h1,h2⟩
theorem Qe9{f:Nat->Option LTr}(hf:∀k u,f k=some u->u.id=k):∀l:List LTr,Q7k l->∀p∈objss (Q4t f l),(∃k u,k∈keys (objss l)/\f k=some u/\p∈objs u)∨(p∈objss l/\f p.1=none)
 |[],_,p,hp=>by simp[Q4t,objss]at hp
 |t::l,hpl,p,hp=>by
  simp only[Q4t,objss,List.mem_append]at hp ⊢
  rcases hp with hp|hp
  ·rcases Q8p hf t hpl.1 p hp with ⟨k,u,h1,h2,h3⟩|⟨h1,h2⟩
   ·exact .inl ⟨k,u,by rw[Q0v];exact List.mem_append.2 (.inl h1),h2,h3⟩
   ·exact .inr ⟨.inl h1,h2⟩
  ·rcases Qe9 hf l hpl.2 p hp with ⟨k,u,h1,h2,h3⟩|⟨h1,h2⟩
   ·exact .inl ⟨k,u,by rw[Q0v];exact List.mem_append.2 (.inr h1),h2,h3⟩
   ·exact .inr ⟨.inr h1,h2⟩
end
mutual
theorem Q45(q:Int):∀t:LTr,∀s∈usesL q t,s.id∈keys (objs t)
 |.mk i o n nb b ks a,s,hs=>by
  simp only[usesL]at hs
  split at hs
  ·split at hs
   ·simp at hs;subst hs;exact Qbq _
   ·simp at hs
  ·have:=Q44 q ks s hs
   rw[Q0d,tailO]
   simp only[keys,List.map_cons,List.map_append]at this ⊢
   simp[this]
theorem Q44(q:Int):∀l:List LTr,∀s∈Q1b q l,s.id∈keys (objss l)
 |[],s,hs=>by simp[Q1b]at hs
 |t::l,s,hs=>by
  simp only[Q1b,List.mem_append]at hs
  simp only[objss,Q0v,List.mem_append]
  rcases hs with hs|hs
  ·exact .inl (Q45 q t s hs)
  ·exact .inr (Q44 q l s hs)
end
mutual
theorem Ql6{f:Nat->Option LTr}{q:Int}{V:Tr}(hV:∀k u,f k=some u->erT u=V):∀t:LTr,(keys (objs t)).Nodup->(∀k∈keys (objs t),f k≠none↔k∈(usesL q t).map LTr.id)->erT (putsL f t)=subT q V (erT t)
 |.mk i o n nb b ks a,hn,hf=>by
  have hii:i∈keys (objs (.mk i o n nb b ks a)):=Qbq (.mk i o n nb b ks a)
  have hfi:=hf i hii
  have hself:i∉keys (objss ks):=fun h=>by
   have:=Q9a hn
   refine this ?_
   simp only[tailO,keys,List.map_append,List.mem_append]
   exact .inr h
  have hkk:∀k∈keys (objss ks),k∈keys (objs (.mk i o n nb b ks a)):=fun k hk=>by
   rw[Q0d,tailO]
   simp only[keys,List.map_cons,List.map_append]at hk ⊢
   simp[hk]
  have hnk:(keys (objss ks)).Nodup:=by
   rw[Q0d]at hn
   simp only[tailO,keys,List.map_cons,List.map_append]at hn
   exact (List.nodup_append.1 (List.nodup_cons.1 hn).2).2.1
  simp only[usesL]at hfi hf
  by_cases h0:o=0
  ·rw[if_pos h0]at hfi
   by_cases h1:n=q
   ·rw[if_pos h1]at hfi
    have:f i≠none:=hfi.2 (by simp[LTr.id])
    cases hu:f i with
    |none=>exact absurd hu this
    |some u=>
     simp only[putsL,hu,erT,subT,if_pos h0,if_pos h1]
     exact hV i u hu
   ·rw[if_neg h1]at hfi
    have hno:f i=none:=by
     cases hu:f i with
     |none=>rfl
     |some u=>have:=hfi.1 (by rw[hu];simp);simp at this
    have hks:Q4t f ks=ks:=Q64 ks fun k hk=>by
     have:=hf k (hkk k hk)
     rw[if_pos h0,if_neg h1]at this
     cases hu:f k with
     |none=>rfl
     |some u=>have:=this.1 (by rw[hu];simp);simp at this
    simp only[putsL,hno,hks,erT,subT,if_pos h0,if_neg h1]
  ·rw[if_neg h0]at hfi
   have hno:f i=none:=by
    cases hu:f i with
    |none=>rfl
    |some u=>
     have:=hfi.1 (by rw[hu];simp)
     obtain⟨s,hs,he⟩:=List.mem_map.1 this
     exact absurd (he▸Q44 q ks s hs) hself
   simp only[putsL,hno,erT,subT,if_neg h0]
   congr 1
   refine Qhh hV ks hnk fun k hk=>?_
   have:=hf k (hkk k hk)
   rwa [if_neg h0]at this
theorem Qhh{f:Nat->Option LTr}{q:Int}{V:Tr}(hV:∀k u,f k=some u->erT u=V):∀l:List LTr,(keys (objss l)).Nodup->(∀k∈keys (objss l),f k≠none↔k∈(Q1b q l).map LTr.id)->erTs (Q4t f l)=subTs q V (erTs l)
 | [], _, _ => rfl
 |t::l,hn,hf=>by
  simp only[objss,Q0v,List.nodup_append]at hn
  simp only[objss,Q0v,List.mem_append,Q1b,List.map_append]at hf
  simp only[Q4t,erTs,subTs]
  have h1:=Ql6 hV t hn.1 fun k hk=>by
   rw[hf k (.inl hk)]
   constructor
   ·rintro (h|h)
    ·exact h
    ·obtain⟨s,hs,rfl⟩:=List.mem_map.1 h
     exact absurd rfl (hn.2.2 _ hk _ (Q44 q l s hs))
   ·exact .inl
  have h2:=Qhh hV l hn.2.1 fun k hk=>by
   rw[hf k (.inr hk)]
   constructor
   ·rintro (h|h)
    ·obtain⟨s,hs,rfl⟩:=List.mem_map.1 h
     exact absurd rfl (hn.2.2 _ (Q45 q t s hs) _ hk)
    ·exact h
   ·exact .inr
  rw[h1,h2]
end
mutual
theorem Qaz(q:Int):∀t:LTr,(keys (objs t)).Nodup->((usesL q t).map LTr.id).Nodup
 |.mk i o n nb b ks a,hn=>by
  simp only[usesL]
  split
  ·split <;> simp
  ·refine Q91 q ks ?_
   rw[Q0d]at hn
   simp only[tailO,keys,List.map_cons,List.map_append]at hn
   exact (List.nodup_append.1 (List.nodup_cons.1 hn).2).2.1
theorem Q91(q:Int):∀l:List LTr,(keys (objss l)).Nodup->((Q1b q l).map LTr.id).Nodup
 |[],_=>by simp[Q1b]
 |t::l,hn=>by
  simp only[objss,Q0v,List.nodup_append]at hn
  simp only[Q1b,List.map_append,List.nodup_append]
  refine⟨Qaz q t hn.1,Q91 q l hn.2.1,fun x hx y hy=>?_⟩
  obtain⟨s,hs,rfl⟩:=List.mem_map.1 hx
  obtain⟨s',hs',rfl⟩:=List.mem_map.1 hy
  exact hn.2.2 _ (Q45 q t s hs) _ (Q44 q l s' hs')
end
def setO (ou:Outer)(k:Nat)(o:AObj):Outer:=fun j=>bif Nat.beq j k then some o else ou j
theorem Qdz(ou:Outer)(k:Nat)(o:AObj):setO ou k o k=some o:=by unfold setO;simp
theorem Q54{ou:Outer}{j k:Nat}{o:AObj}(h:j≠k):setO ou k o j=ou j:=by unfold setO;rw[Q05 h];rfl
theorem Qfp{ou:Outer}{k:Nat}{o:AObj}(h:OuOk ou)(ho:o.ids isO):OuOk (setO ou k o):=fun j p hj=>by
 by_cases e:j=k
 ·subst e;rw[Qdz]at hj;cases hj;exact ho
 ·rw[Q54 e]at hj;exact h j p hj
def Q36 (k:Nat):LTr->LTr
 |.mk _ o n nb b ks a=>.mk k o n nb b ks a
theorem Q2g(k:Nat)(t:LTr):(Q36 k t).id=k:=by cases t;rfl
theorem Q6f(k:Nat)(t:LTr):erT (Q36 k t)=erT t:=by cases t;rfl
theorem Qk9(k:Nat)(t:LTr):lC (Q36 k t)=lC t:=by cases t;rfl
theorem Q3g(k:Nat)(t:LTr):tailO (Q36 k t)=tailO t:=by cases t;rfl
theorem Qlx(t:LTr):(lC t).length=5:=by cases t;rfl
theorem Qem(t:LTr):(AObj.cells (lC t)).ids isO:=by
 cases t with
 |mk i o n nb b ks a=>exact Q3v o n nb b ks a
theorem Q7e{ou:Outer}{k:Nat}{t:LTr}(h:Owns ou (tailO t))(hk:k∉keys (tailO t)):Owns (setO ou k (.cells (lC t))) (objs (Q36 k t)):=fun p hp=>by
 rw[Q0d,Q2g,Qk9,Q3g]at hp
 rcases List.mem_cons.1 hp with rfl|hp
 ·exact Qdz _ _ _
 ·rw[Q54 (show p.1≠k from fun e=>hk (e▸Q0s hp))];exact h p hp
theorem Q8q{ou:Outer}{t:LTr}(h:Owns ou (objs t)):Owns ou (tailO t):=fun p hp=>h p (by rw[Q0d];exact List.mem_cons_of_mem _ hp)
def updF (f:Nat->Option LTr)(k:Nat)(u:LTr):Nat->Option LTr:=fun j=>if j=k then some u else f j
structure CopyI (ou1 ov:Outer)(L:List LTr)(V:Tr)(f:Nat->Option LTr):Prop where
 dom:∀k,f k≠none↔k∈L.map LTr.id
 u:∀k u,f k=some u->u.id=k/\erT u=V/\Owns ov (objs u)/\∀p∈tailO u,ou1 p.1=none
 old:∀k o,ou1 k=some o->f k=none->ov k=some o
 ok:OuOk ov
theorem CopyI.nil{ou1:Outer}{V:Tr}(h:OuOk ou1):CopyI ou1 ou1 [] V (fun _=>none):=⟨by simp,by simp,fun k o hk _=>hk,h⟩
theorem CopyI.step{ou1 ov ow:Outer}{L:List LTr}{V:Tr}{f:Nat->Option LTr}(h:CopyI ou1 ov L V f){x c:LTr}{o:AObj}(hx:ou1 x.id=some o)(hxL:x.id∉L.map LTr.id)(hV:erT c=V)(hc:Owns ow (objs c))(hnew:∀k∈keys (objs c),ov k=none)(hold:∀k o,ov k=some o->ow k=some o)(hok:OuOk ow):
  CopyI ou1 (setO ow x.id (.cells (lC c))) (L++[x]) V (updF f x.id (Q36 x.id c)):=by
 have hfx:f x.id=none:=by
  cases hu:f x.id with
  |none=>rfl
  |some u=>exact absurd ((h.dom x.id).1 (by rw[hu];simp)) hxL
 have hvx:=h.old _ _ hx hfx
 have hck:∀p∈objs c,ou1 p.1=none:=fun p hp=>by
  have h1:=hnew p.1 (Q0s hp)
  cases ho:ou1 p.1 with
  |none=>rfl
  |some o'=>
   by_cases hf:f p.1=none
   ·rw[h.old _ _ ho hf]at h1;cases h1
   ·obtain⟨u,hu⟩:=Option.ne_none_iff_exists'.1 hf
    obtain⟨e1,_,e3,_⟩:=h.u _ _ hu
    have:=e3 (u.id,.cells (lC u)) (by rw[Q0d];simp)
    rw[e1,h1]at this;cases this
 refine⟨fun k=>?_,fun k u hu=>?_,fun k o' hk hf=>?_,Qfp hok (Qem c)⟩
 ·unfold updF
  by_cases e:k=x.id
  ·subst e;simp
  ·rw[if_neg e,h.dom k];simp[e]
 ·unfold updF at hu
  by_cases e:k=x.id
  ·rw[if_pos e]at hu
   cases hu
   refine⟨by rw[Q2g,e],by rw[Q6f,hV],Q7e (Q8q hc) fun hm=>?_,fun p hp=>?_⟩
   ·obtain⟨o'',hq⟩:=Q1g hm
    have:=hck (x.id,o'') (by rw[Q0d];exact List.mem_cons_of_mem _ hq)
    rw[hx]at this;cases this
   ·rw[Q3g]at hp
    exact hck p (by rw[Q0d];exact List.mem_cons_of_mem _ hp)
  ·rw[if_neg e]at hu
   obtain⟨e1,e2,e3,e4⟩:=h.u k u hu
   refine⟨e1,e2,fun p hp=>?_,e4⟩
   have hpx:p.1≠x.id:=by
    rw[Q0d]at hp
    rcases List.mem_cons.1 hp with rfl|hp
    ·simp only;rw[e1];exact e
    ·intro e5
     have:=e4 p hp
     rw[e5,hx]at this;cases this
   rw[Q54 hpx]
   exact hold _ _ (e3 p hp)
 ·unfold updF at hf
  by_cases e:k=x.id
  ·rw[if_pos e]at hf;cases hf
  ·rw[if_neg e]at hf
   rw[Q54 e]
   exact hold _ _ (h.old k o' hk hf)
theorem Qhi{f:Nat->Option LTr}{q:Int}{d:LTr}{V:Tr}{ov:Outer}{i:Nat}(hn:(keys (objs d)).Nodup)(hp:Q24 d)(hi:i∉keys (objs d))(hdom:∀k,f k≠none↔k∈(usesL q d).map LTr.id)
  (hu : ∀ k u, f k = some u -> u.id = k /\ erT u = V /\ Owns ov (objs u) /\ i ∉ keys (tailO u)) (hold : ∀ p ∈ objs d, f p.1 = none -> ov p.1 = some p.2) :
  erT (putsL f d)=subT q V (erT d)/\Owns ov (objs (putsL f d))/\i∉keys (objs (putsL f d)):=by
 have hf:∀k u,f k=some u->u.id=k:=fun k u h=>(hu k u h).1
 refine⟨Ql6 (fun k u h=>(hu k u h).2.1) d hn fun k _=>hdom k,fun p hp'=>?_,fun hm=>?_⟩
 ·rcases Q8p hf d hp p hp' with ⟨k,u,_,h2,h3⟩|⟨h1,h2⟩
  ·exact (hu k u h2).2.2.1 p h3
  ·exact hold p h1 h2
 ·obtain⟨o,ho⟩:=Q1g hm
  rcases Q8p hf d hp _ ho with ⟨k,u,h1,h2,h3⟩|⟨h1,h2⟩
  ·rw[Q0d]at h3
   rcases List.mem_cons.1 h3 with h3|h3
   ·have:i=u.id:=by injection h3
    rw[this,(hu k u h2).1]at hi
    exact hi h1
   ·exact (hu k u h2).2.2.2 (Q0s h3)
  ·exact hi (Q0s h1)
theorem Qea{f:Nat->Option LTr}{d:LTr}(hp:Q24 d)(hf:∀k u,f k=some u->u.id=k):∀k∈keys (objs (putsL f d)),k∈keys (objs d)∨∃k' u,f k'=some u/\k∈keys (tailO u):=fun k hk=>by
 obtain⟨o,ho⟩:=Q1g hk
 rcases Q8p hf d hp _ ho with ⟨k',u,h1,h2,h3⟩|⟨h1,h2⟩
 ·rw[Q0d]at h3
  rcases List.mem_cons.1 h3 with h3|h3
  ·have:k=u.id:=by injection h3
   rw[this,hf k' u h2];exact .inl h1
  ·exact .inr ⟨k',u,h2,Q0s h3⟩
 ·exact .inl (Q0s h1)
def ResW (ou:Outer)(t:LTr)(x:Option Tr)(r:FV)(ou':Outer):Prop:=match x with
 |none=>r=nilP/\OuOk ou'/\∀j o,ou j=some o->ou' j=some o
 |some X=>∃u:LTr,r=.one (.ptr (.o u.id) 0)/\erT u=X/\Owns ou' (objs u)/\t.id∉keys (objs u)/\OuOk ou'/\(∀j o,ou j=some o->j∉keys (tailO t)->ou' j=some o)/\∀k∈keys (objs u),k∈keys (tailO t)∨ou k=none
theorem ResD.w{ou ou':Outer}{t:LTr}{x:Option Tr}{r:FV}(ho:Owns ou (objs t))(hn:(keys (objs t)).Nodup)(h:ResD ou t x r ou'):ResW ou t x r ou':=by
 cases x with
 |none=>exact h
 |some X=>
  obtain⟨u,h1,h2,h3⟩:=h
  refine⟨u,h1,h2,h3.own (Q8q ho),h3.not (Q09 ho) (Q9a hn),h3.ok,fun j o hj _=>h3.old j o hj,fun k hk=>?_⟩
  obtain⟨o,hp⟩:=Q1g hk
  exact (h3.part _ hp).imp (fun h=>Q0s h) (fun h=>h.1)
mutual
theorem Qc6(q:Int):∀t:LTr,∀s∈usesL q t,∀p∈objs s,p∈objs t
 |.mk i o n nb b ks a,s,hs,p,hp=>by
  simp only[usesL]at hs
  split at hs
  ·split at hs
   ·simp at hs;subst hs;exact hp
   ·simp at hs
  ·have:=Qdn q ks s hs p hp
   rw[Q0d,tailO]
   simp[this]
theorem Qdn(q:Int):∀l:List LTr,∀s∈Q1b q l,∀p∈objs s,p∈objss l
 |[],s,hs,_,_=>by simp[Q1b]at hs
 |t::l,s,hs,p,hp=>by
  simp only[Q1b,List.mem_append]at hs
  simp only[objss,List.mem_append]
  rcases hs with hs|hs
  ·exact .inl (Qc6 q t s hs p hp)
  ·exact .inr (Qdn q l s hs p hp)
end
theorem Qh5(t:LTr):(t.id,AObj.cells (lC t))∈objs t:=by rw[Q0d];simp
set_option maxHeartbeats 2000000 in
theorem Qjl(hΓ:∀g cs,(g,cs)∈Γ->idsL isO cs)(rule:Int)(i:Nat)(n q:Int)(v d:LTr)(hpl:Q24 (.mk i 4 n none [q] [v,d] []))(hok:okT (erT (.mk i 4 n none [q] [v,d] [])))(hsh:allT shpL (erT (.mk i 4 n none [q] [v,d] [])))(hc:cntN (erT (.mk i 4 n none [q] [v,d] []))<=1048576)(ou:Outer)
  (ho:Owns ou (objs (.mk i 4 n none [q] [v,d] []))) (hn:(keys (objs (.mk i 4 n none [q] [v,d] []))).Nodup):
  AFn Tryz.prog Γ 107 [.one (int rule),.one (.ptr (.o i) 0)] ou (ResW ou (.mk i 4 n none [q] [v,d] []) (Q6v rule (erT (.mk i 4 n none [q] [v,d] [])))):=by
 have hi:ou i=some (.cells (lC (.mk i 4 n none [q] [v,d] []))):=Q09 ho
 simp only[lC,bC]at hi
 have hvm:v∈(LTr.mk i 4 n none [q] [v,d] []).kids:=by simp[LTr.kids]
 have hdm:d∈(LTr.mk i 4 n none [q] [v,d] []).kids:=by simp[LTr.kids]
 have hvo:=Q14 ho hvm
 have hdo:=Q14 ho hdm
 have hvk:=Q2k hok (Q1y hvm)
 have hdk:=Q2k hok (Q1y hdm)
 have hvs:=Q1x hsh (Q1y hvm)
 have hvc:cntN (erT v)<=1048576:=by have:=Q82 (Q1y hvm);omega
 have hdc:cntN (erT d)<=1048576:=by have:=Q82 (Q1y hdm);omega
 have hval:=Q43 hΓ (erT v) hvk hvs
 have hat:=Qdf (Γ:=Γ) (erT v)
 have hus:=Qfj hΓ d hdk hdc q ou hdo
 have hlen:(kC (usesL q d)).length=usesN q (erT d):=by rw[Q0q,Q4x]
 have hul:(usesL q d).length<=1048576:=by have:=Qc7 q (erT d);rw[Q4x];omega
 have hni:i∉keys (objs v)/\i∉keys (objs d)/\(keys (objs v)).Nodup/\(keys (objs d)).Nodup/\∀k∈keys (objs v),k∉keys (objs d):=by
  have h1:(i::(keys (objs v)++keys (objs d))).Nodup:=by
   have e1:keys (objs (.mk i 4 n none [q] [v,d] []))=i::(keys (objs v)++keys (objs d)):=by rw[Q0d];simp[tailO,bO,aO,objss,keys,LTr.id]
   rw[←e1];exact hn
  simp only[List.nodup_cons,List.nodup_append,List.mem_append,not_or]at h1
  exact⟨h1.1.1,h1.1.2,h1.2.1,h1.2.2.1,fun k hk hk2=>h1.2.2.2 k hk k hk2 rfl⟩
 obtain⟨X,hX⟩:∃X,X=Q6v rule (erT (.mk i 4 n none [q] [v,d] [])):=⟨_,rfl⟩
 rw[←hX]
 have hL:X=if rule=2/\atomT (erT v)=true then some (subT q (erT v) (erT d))
  else if rule=3/\usesN q (erT d)=0/\valT (erT v)=true then some (erT d)
  else if rule=8/\(erT v).op=4 then some (letT ((erT v).binds.getD 0 0) (kidT (erT v) 0) (letT q (kidT (erT v) 1) (erT d)))
  else if rule=9/\(erT v).op=7/\(erT v).alts.length=1 then some (.mk 7 0 [] [kidT (erT v) 0,letT q (kidT (erT v) 1) (erT d)] (erT v).alts)
  else if rule=11/\(erT v).op=2/\usesN q (erT d)=1 then some (subT q (erT v) (erT d))
  else none:=hX
 clear hX
 refine AFn.walk 161 tabOk Tryz.func107 rfl (by kernel_rfl) rfl rfl fun hou=>?_
 refine zA ?_
 refine ACode.drawX tabOk 13 [(3,.one (.sl 1 (kC [v,d]))),(4,.one (.box [.ptr (.o v.id) 0])),(9,.one (.sl 1 (kC [v,d]))),(10,.one (.box [.ptr (.o d.id) 0]))] follows (by kernel_rfl) rfl rfl rfl rfl ?_ ?_
 ·refine .step rfl (zHP (zLD rfl rfl hi rfl)) ?_
  refine .step rfl (zHP (zIA rfl rfl rfl (by decide) rfl)) ?_
  refine .step rfl (zHP (zLD rfl rfl hi rfl)) ?_
  exact .step rfl (zHP (zIA rfl rfl rfl (by decide) rfl)) .nil
 repeat' first|refine zN ?_|((with_reducible refine oj ?_);first|refine zix ?_|refine zow rfl rfl hi ?_)
 refine AOps.call1 hΓ rfl rfl rfl rfl rfl rfl rfl (by exact⟨trivial,trivial,trivial⟩) hou hus fun r ou' hq _ _=>?_
 obtain⟨rfl,rfl⟩:=hq
 by_cases h2:rule=2
 ·subst h2
  repeat' first|refine zN ?_|((with_reducible refine oj ?_);first|refine zix ?_|refine zow rfl rfl hi ?_)
  refine AOps.callS hΓ hat (Plain.lit _) rfl rfl rfl rfl rfl rfl (Q2f.t1 hvo) ?_
  refine zA ?_
  refine ACode.condS rfl (fun hb=>?_) (fun hb=>?_)
  ·have ha:atomT (erT v)=true:=hb
   rw[if_pos ⟨rfl,ha⟩]at hL
   repeat ((fail_if_success ((with_reducible refine oj ?_);refine AOps.atDst 39 rfl ?_));first|refine zO ?_)
   refine AOps.freezeU (t:=v) 5 hvo rfl ?_
   obtain⟨ou1,hou1⟩:∃ou1,ou1=deadL ou' (keys (objs v)):=⟨_,rfl⟩
   rw[←hou1]
   have hok1:OuOk ou1:=fun m o hm=>by
    rw[hou1]at hm
    unfold deadL at hm
    split at hm
    ·cases hm;trivial
    ·exact hou m o hm
   have hold1:∀j,j∉keys (objs v)->ou1 j=ou' j:=fun j hj=>by rw[hou1];unfold deadL;rw[if_neg hj]
   have hvd:∀k∈keys (objs d),k∉keys (objs v):=fun k hk hk2=>hni.2.2.2.2 k hk2 hk
   refine zA ?_
   refine ACode.loopR hΓ (α:=Nat×Outer×(Nat->Option LTr)) (fun c=>[(41,.one (int c.1)),(40,.one (int (kC (usesL q d)).length)),(39,.one (.sl 1 (kC (usesL q d)))),(6,.one (.ptr (.o d.id) 0)),(5,.one (.box (cTr (erT v))))])
    (fun c=>⟨0,[],c.2.1⟩) (fun m c=>c.1<=(usesL q d).length/\CopyI ou1 c.2.1 ((usesL q d).take c.1) (erT v) c.2.2/\m=(usesL q d).length - c.1) (a0:=(0,ou1,fun _=>none)) (ρ:=fun k=>k) ⟨by omega,CopyI.nil hok1,rfl⟩ (LessR.of rfl ?_ (by simp) .nil rfl rfl hok1) fun m c hc2=>?_
   ·exact FrSub.cons rfl (.ofEq rfl) (FrSub.cons rfl (.ofEq rfl) (FrSub.consP rfl (.ofEq rfl) (by simp) (FrSub.cons rfl (.ofEq rfl) (FrSub.consP rfl (.ofEq rfl) (by simp) .nil))))
   obtain⟨j,ov,f⟩:=c
   obtain⟨hjl,hI,rfl⟩:=hc2
   dsimp only at hjl hI
   have hov:=hI.ok
   refine zA ?_
   refine ACode.cond rfl (fun hb2=>?_) (fun hb2=>?_)
   ·have hlt:j < (usesL q d).length:=by simpa[Q0q]using hb2
    obtain⟨x,hx⟩:=Q00 hlt
    have hxm:=List.mem_of_getElem? hx
    have hxk:=Q45 q d x hxm
    refine zA ?_
    refine zS (zIA rfl rfl rfl (by omega) (Q2n hx)) ?_
    refine zA ?_
    refine AOps.call1 hΓ rfl rfl rfl rfl rfl rfl rfl (by simp) hov (Qms hΓ (erT v) hvk hvc ov) fun r ow hq _ how=>?_
    obtain⟨c,rfl,her,_,hco,hcn,hcnew,_,hcold⟩:=hq
    rw[Q12]at her
    have hcc:=Q09 hco
    have hx1:ou1 x.id=some (.cells (lC x)):=by
     rw[hold1 _ (hvd _ hxk)]
     exact hdo _ (Qc6 q d x hxm _ (Qh5 x))
    have hxL:x.id∉((usesL q d).take j).map LTr.id:=by
     have h1:=Qaz q d hni.2.2.2.1
     obtain⟨h3,h4⟩:=List.getElem?_eq_some_iff.1 hx
     rw[←List.take_append_drop j (usesL q d),List.drop_eq_getElem_cons h3,h4,List.map_append,List.map_cons,List.nodup_append]at h1
     exact fun hm=>h1.2.2 _ hm _ (by simp) rfl
    have hfx:f x.id=none:=by
     cases hu:f x.id with
     |none=>rfl
     |some u=>exact absurd ((hI.dom x.id).1 (by rw[hu];simp)) hxL
    have hx2:=hcold _ _ (hI.old _ _ hx1 hfx)
    have hI2:=hI.step hx1 hxL her hco hcnew hcold how
    rw[←Q0n hx]at hI2
    cases c with
    |mk kc oc nc nbc bc ksc ac=>
    simp only[lC]at hcc
    refine zA ?_
    refine zS (AStep.loadOwnA tabOk rfl rfl rfl rfl rfl hcc) ?_
    refine zA ?_
    refine AOps.storeOwnA tabOk rfl rfl rfl rfl rfl (by simp[Qlx]) rfl rfl hx2 ?_
    refine zM ?_
    exact cInv ⟨(usesL q d).length - (j+1),(j+1,_,_),fun k=>k,by omega,⟨by omega,hI2,rfl⟩,LessR.of rfl (FrSub.cons rfl (.ofEq rfl) (FrSub.cons rfl (.ofEq rfl) (FrSub.consP rfl (.ofEq rfl) (by simp) (FrSub.cons rfl (.ofEq rfl) (FrSub.consP rfl (.ofEq rfl) (by simp) .nil))))) (by simp) .nil rfl rfl hI2.ok⟩
   ·have hlt:j=(usesL q d).length:=by simp[Q0q]at hb2;omega
    subst hlt
    rw[List.take_length]at hI
    obtain⟨e1,e2,e3⟩:=Qhi (i:=i) hni.2.2.2.1 (Q0z hpl hdm) hni.2.1 hI.dom (fun k u hu=>by
     obtain⟨g1,g2,g3,g4⟩:=hI.u k u hu
     refine⟨g1,g2,g3,fun hm=>?_⟩
     obtain⟨o',ho'⟩:=Q1g hm
     have:=g4 _ ho'
     simp only at this
     rw[hold1 i hni.1,hi]at this
     cases this) (fun p hp hf=>hI.old _ _ (by rw[hold1 _ (hvd _ (Q0s hp))];exact hdo p hp) hf)
    have hid:(putsL f d).id=d.id:=Qcj (fun k u hu=>(hI.u k u hu).1) d
    refine zA ?_
    refine AFn.fin' rfl (WkF.refl _) (by simp) hov ?_
    rw[hL]
    refine⟨putsL f d,by rw[hid],e1,e2,e3,hov,fun k o hk hkt=>?_,fun k hk=>?_⟩
    rotate_left
    ·rcases Qea (Q0z hpl hdm) (fun k u hu=>(hI.u k u hu).1) k hk with hkd|⟨k',u,hu,hku⟩
     ·obtain⟨o',ho'⟩:=Q1g hkd
      exact .inl (Q0s (Q1f hdm ho'))
     ·obtain⟨o',ho'⟩:=Q1g hku
      have h7:=(hI.u k' u hu).2.2.2 _ ho'
      right
      cases hk7:ou' k with
      |none=>rfl
      |some o7=>
       simp only[hou1]at h7
       unfold deadL at h7
       split at h7
       ·cases h7
       ·rw[hk7]at h7;cases h7
    have hkv:k∉keys (objs v):=fun hm=>by
     obtain⟨o',ho'⟩:=Q1g hm
     exact hkt (Q0s (Q1f hvm ho'))
    have hkd:k∉keys (objs d):=fun hm=>by
     obtain⟨o',ho'⟩:=Q1g hm
     exact hkt (Q0s (Q1f hdm ho'))
    refine hI.old k o (by rw[hold1 k hkv];exact hk) ?_
    cases hu:f k with
    |none=>rfl
    |some u=>
     have:=(hI.dom k).1 (by rw[hu];simp)
     obtain⟨s,hs,rfl⟩:=List.mem_map.1 this
     exact absurd (Q45 q d s hs) hkd
  ·have ha:atomT (erT v)=false:=hb
   rw[if_neg (by rw[ha];simp),if_neg (by simp),if_neg (by simp),if_neg (by simp),if_neg (by simp)]at hL
   refine zA ?_
   exact AFn.fin' rfl (WkF.refl _) (by simp) hou (by rw[hL];exact⟨rfl,hou,fun _ _ h=>h⟩)
 rw[if_neg (fun h=>h2 h.1)]at hL
 by_cases h3:rule=3
 ·subst h3
  repeat' first|refine zN ?_|((with_reducible refine oj ?_);first|refine zix ?_|refine zow rfl rfl hi ?_)
  rw[hlen]
  refine AOps.splitS rfl rfl rfl rfl (fun hb=>?_) (fun hb=>?_)
  ·have h0:usesN q (erT d)=0:=by simpa using hb
   refine zM ?_
   refine AOps.callS hΓ hval (Plain.lit _) rfl rfl rfl rfl rfl rfl (Q2f.t1 hvo) ?_
   refine zA ?_
   refine ACode.condS rfl (fun hb3=>?_) (fun hb3=>?_)
   ·have hv:valT (erT v)=true:=hb3
    rw[if_pos ⟨rfl,h0,hv⟩]at hL
    refine zA ?_
    exact AFn.fin' rfl (WkF.refl _) (by simp) hou (by rw[hL];exact ResD.w ho hn ⟨d,rfl,rfl,Der.refl (fun p hp=>Q1f hdm hp) hou⟩)
   ·have hv:valT (erT v)=false:=hb3
    rw[if_neg (by rw[hv];simp),if_neg (by simp),if_neg (by simp),if_neg (by simp)]at hL
    refine zA ?_
    exact AFn.fin' rfl (WkF.refl _) (by simp) hou (by rw[hL];exact⟨rfl,hou,fun _ _ h=>h⟩)
  ·have h0:¬usesN q (erT d)=0:=by simpa using hb
   rw[if_neg (fun h=>h0 h.2.1),if_neg (by simp),if_neg (by simp),if_neg (by simp)]at hL
   refine zA ?_
   exact AFn.fin' rfl (WkF.refl _) (by simp) hou (by rw[hL];exact⟨rfl,hou,fun _ _ h=>h⟩)
 rw[if_neg (fun h=>h3 h.1)]at hL
 cases v with
 |mk j op2 n2 nb2 b2 ks2 a2=>
 obtain rfl:nb2=none:=(Q0z hpl hvm).1
 have hv:ou' j=some (.cells (lC (.mk j op2 n2 none b2 ks2 a2))):=Q09 hvo
 simp only[lC,bC]at hv
 have hop:(erT (.mk j op2 n2 none b2 ks2 a2)).op=op2:=rfl
 rw[hop]at hL
 by_cases h8:rule=8
 ·subst h8
  repeat' first|refine zN ?_|((with_reducible refine oj ?_);first|refine zix ?_|refine zow rfl rfl hi ?_|refine zow rfl rfl hv ?_)
  refine ACode.condS rfl (fun hb=>?_) (fun hb=>?_)
  ·have h4:op2=4:=by simpa using hb
   subst h4
   rw[if_pos ⟨rfl,rfl⟩]at hL
   obtain⟨q2,y0,y1,hb2,hk2,_⟩:=Q99 (o:=4) (n:=n2) (b:=b2) (k:=erTs ks2) (a:=a2.map LAlt.er) hvs rfl
   obtain⟨k0,k1,rfl⟩:∃k0 k1,ks2=[k0,k1]:=by
    rw[Q0g]at hk2
    match ks2,hk2 with
    |[k0,k1],_=>exact⟨k0,k1,rfl⟩
   subst hb2
   have hk0m:k0∈(LTr.mk j 4 n2 none [q2] [k0,k1] a2).kids:=by simp[LTr.kids]
   have hk1m:k1∈(LTr.mk j 4 n2 none [q2] [k0,k1] a2).kids:=by simp[LTr.kids]
   have hL:X=some (letT q2 (erT k0) (letT q (erT k1) (erT d))):=hL
   refine zA ?_
   refine ACode.drawC tabOk 22 [20,21] [(3,.one (.sl 1 ([q2].map cI))),(4,.one (.box [int q2])),(9,.one (.sl 1 (kC [k0,k1]))),(10,.one (.box [.ptr (.o k0.id) 0])),(16,.one (.sl 1 (kC [k0,k1]))),(17,.one (.box [.ptr (.o k1.id) 0]))] (fun vs σ=>match vs with
     |[]=>σ=⟨0,[],ou'⟩
     |[a]=>∃(k:Nat) (ow:Outer),a=.one (.ptr (.o k) 0)/\NewO ou' ow [(k,.cells (lC (letN k q k1 d)))]/\σ=⟨0,[],ow⟩
     |[a,b]=>∃(k k':Nat) (ow ox:Outer),a=.one (.ptr (.o k) 0)/\b=.one (.ptr (.o k') 0)/\NewO ou' ow [(k,.cells (lC (letN k q k1 d)))]/\NewO ow ox [(k',.cells (lC (letN k' q2 k0 (letN k q k1 d))))]/\σ=⟨0,[],ox⟩
     |_=>False) follows (by kernel_rfl) rfl rfl (by decide) (by kernel_rfl) (by kernel_rfl) rfl rfl ?_ ?_ (by decide) ?_ ?_
   ·rintro vs σ hG
    match vs,hG with
    |[],hG=>subst hG;rfl
    |[a],hG=>obtain⟨k,ow,_,_,rfl⟩:=hG;rfl
    |[a,b],hG=>obtain⟨k,k',ow,ox,_,_,_,_,rfl⟩:=hG;rfl
   ·rintro vs σ hG
    have hv':σ.ou j=some (.cells [int 4,int n2,.sl 1 ([q2].map cI),.sl 1 (kC [k0,k1]),.sl 2 (a2.map lAlt)]):=by
     match vs,hG with
     |[],hG=>subst hG;exact hv
     |[a],hG=>obtain⟨k,ow,_,hN,rfl⟩:=hG;exact hN.oldS hv
     |[a,b],hG=>obtain⟨k,k',ow,ox,_,_,hN,hN2,rfl⟩:=hG;exact hN2.oldS (hN.oldS hv)
    refine .step rfl (zHP (zLD rfl rfl hv' rfl)) ?_
    refine .step rfl (zHP (zIA rfl rfl rfl (by decide) rfl)) ?_
    refine .step rfl (zHP (zLD rfl rfl hv' rfl)) ?_
    refine .step rfl (zHP (zIA rfl rfl rfl (by decide) rfl)) ?_
    refine .step rfl (zHP (zLD rfl rfl hv' rfl)) ?_
    exact .step rfl (zHP (zIA rfl rfl rfl (by decide) rfl)) .nil
   ·rintro vs σ hG p oo hp1 hp2
    match vs,hG with
    |[],hG=>
     subst hG
     cases hp1
     cases hp2
     refine⟨rfl,rfl,.inr ⟨rfl,Q0w.call hΓ rfl rfl rfl rfl (by exact⟨trivial,trivial,trivial,trivial⟩) hou (Qej hΓ q k1 d ou') fun r ow hq _ _=>?_⟩⟩
     obtain⟨k,rfl,hN⟩:=hq
     exact⟨k,ow,rfl,hN,rfl⟩
    |[a],hG=>
     obtain⟨k,ow,rfl,hN,rfl⟩:=hG
     cases hp1
     cases hp2
     refine⟨rfl,rfl,.inr ⟨rfl,Q0w.call hΓ rfl rfl rfl rfl (by exact⟨trivial,trivial,trivial,trivial⟩) hN.ok (Qej hΓ q2 k0 (letN k q k1 d) ow) fun r ox hq _ _=>?_⟩⟩
     obtain⟨k',rfl,hN2⟩:=hq
     exact⟨k,k',ow,ox,rfl,rfl,hN,hN2,rfl⟩
    |[a,b],hG=>cases hp1
   rintro vs σ hlen2 hG
   match vs,hlen2,hG with
   |[a,b],_,hG=>
   obtain⟨k,k',ow,ox,rfl,rfl,hN,hN2,rfl⟩:=hG
   have hD0:Der ou' ou' (tailO (.mk i 4 n none [q] [.mk j 4 n2 none [q2] [k0,k1] a2,d] [])) d:=Der.refl (fun p hp=>Q1f hdm hp) hou
   have hD1:=hD0.let hN (PartO.of fun p hp=>Q3h hvm hk1m hp)
   have hD2:=hD1.let hN2 (PartO.of fun p hp=>Q3h hvm hk0m hp)
   refine zM ?_
   refine AFn.fin' rfl (WkF.refl _) (by simp) hN2.ok (ResD.w ho hn ?_)
   rw[hL]
   exact⟨_,rfl,by rw[Q9t,Q9t],hD2⟩
  ·have h4:¬op2=4:=by simpa using hb
   rw[if_neg (fun h=>h4 h.2),if_neg (by simp),if_neg (by simp)]at hL
   refine zA ?_
   exact AFn.fin' rfl (WkF.refl _) (by simp) hou (by rw[hL];exact⟨rfl,hou,fun _ _ h=>h⟩)
 rw[if_neg (fun h=>h8 h.1)]at hL
 by_cases h9:rule=9
 ·subst h9
  repeat' first|refine zN ?_|((with_reducible refine oj ?_);first|refine zix ?_|refine zow rfl rfl hi ?_|refine zow rfl rfl hv ?_)
  have hal:(erT (.mk j op2 n2 none b2 ks2 a2)).alts.length=a2.length:=by simp[erT]
  rw[hal]at hL
  refine AOps.splitS rfl rfl rfl rfl (fun hb=>?_) (fun hb=>?_)
  ·have h7:op2=7:=by simpa using hb
   subst h7
   repeat' first|refine zN ?_|((with_reducible refine oj ?_);first|refine zix ?_|refine zow rfl rfl hi ?_|refine zow rfl rfl hv ?_)
   refine ACode.condS rfl (fun hb2=>?_) (fun hb2=>?_)
   ·have h1:a2.length=1:=by simp at hb2;omega
    rw[if_pos ⟨rfl,rfl,h1⟩]at hL
    obtain⟨h5,h6⟩:=Q8n (o:=7) (n:=n2) (b:=b2) (k:=erTs ks2) (a:=a2.map LAlt.er) hvs rfl
    rw[Q0g,List.length_map,List.length_map,h1]at h5
    obtain⟨x1,rfl⟩:=List.length_eq_one_iff.1 h1
    obtain⟨k0,k1,rfl⟩:∃k0 k1,ks2=[k0,k1]:=by
     match ks2,h5 with
     |[k0,k1],_=>exact⟨k0,k1,rfl⟩
    have hx1:x1.nb=none:=(Q0z hpl hvm).2.1 x1 (by simp)
    have hk0m:k0∈(LTr.mk j 7 n2 none b2 [k0,k1] [x1]).kids:=by simp[LTr.kids]
    have hk1m:k1∈(LTr.mk j 7 n2 none b2 [k0,k1] [x1]).kids:=by simp[LTr.kids]
    have hL:X=some (.mk 7 0 [] [erT k0,letT q (erT k1) (erT d)] [x1.er]):=hL
    refine zA ?_
    refine ACode.drawC tabOk 22 [18,19,20,21] [(3,.one (.sl 2 ([x1].map lAlt))),(7,.one (.sl 1 (kC [k0,k1]))),(8,.one (.box [.ptr (.o k0.id) 0])),(14,.one (.sl 1 (kC [k0,k1]))),(15,.one (.box [.ptr (.o k1.id) 0]))] (fun vs σ=>match vs with
      |[]=>σ=⟨0,[],ou'⟩
      |[a]=>∃(k:Nat) (ow:Outer),a=.one (.ptr (.o k) 0)/\NewO ou' ow [(k,.cells (lC (letN k q k1 d)))]/\σ=⟨0,[],ow⟩
      |[a,b]=>∃(k:Nat) (ow:Outer),a=.one (.ptr (.o k) 0)/\b=.one (.sl 1 [[.ptr (.o k0.id) 0],[.ptr (.o k) 0]])/\NewO ou' ow [(k,.cells (lC (letN k q k1 d)))]/\σ=⟨0,[],ow⟩
      |[a,b,c]=>∃(k:Nat) (ow:Outer),a=.one (.ptr (.o k) 0)/\b=.one (.sl 1 [[.ptr (.o k0.id) 0],[.ptr (.o k) 0]])/\c=.agg [int 7,int 0,.lit (.slice none 0 0),.sl 1 [[.ptr (.o k0.id) 0],[.ptr (.o k) 0]],.sl 2 ([x1].map lAlt)]/\NewO ou' ow [(k,.cells (lC (letN k q k1 d)))]/\σ=⟨0,[],ow⟩
      |[a,b,c,e]=>∃(k:Nat) (ow:Outer),a=.one (.ptr (.o k) 0)/\b=.one (.sl 1 [[.ptr (.o k0.id) 0],[.ptr (.o k) 0]])/\c=.agg [int 7,int 0,.lit (.slice none 0 0),.sl 1 [[.ptr (.o k0.id) 0],[.ptr (.o k) 0]],.sl 2 ([x1].map lAlt)]/\e=.one (.ptr (.l 0) 0)/\NewO ou' ow [(k,.cells (lC (letN k q k1 d)))]/\σ=⟨1,[(0,.cells [int 7,int 0,.lit (.slice none 0 0),.sl 1 [[.ptr (.o k0.id) 0],[.ptr (.o k) 0]],.sl 2 ([x1].map lAlt)])],ow⟩
      |_=>False) follows (by kernel_rfl) rfl rfl (by decide) (by kernel_rfl) (by kernel_rfl) rfl rfl ?_ ?_ (by decide) ?_ ?_
    ·rintro vs σ hG
     match vs,hG with
     |[],hG=>subst hG;rfl
     |[a],hG=>obtain⟨k,ow,_,_,rfl⟩:=hG;rfl
     |[a,b],hG=>obtain⟨k,ow,_,_,_,rfl⟩:=hG;rfl
     |[a,b,c],hG=>obtain⟨k,ow,_,_,_,_,rfl⟩:=hG;rfl
     |[a,b,c,e],hG=>obtain⟨k,ow,_,_,_,_,_,rfl⟩:=hG;rfl
    ·rintro vs σ hG
     have hv':σ.ou j=some (.cells [int 7,int n2,.sl 1 (b2.map cI),.sl 1 (kC [k0,k1]),.sl 2 ([x1].map lAlt)]):=by
      match vs,hG with
      |[],hG=>subst hG;exact hv
      |[a],hG=>obtain⟨k,ow,_,hN,rfl⟩:=hG;exact hN.oldS hv
      |[a,b],hG=>obtain⟨k,ow,_,_,hN,rfl⟩:=hG;exact hN.oldS hv
      |[a,b,c],hG=>obtain⟨k,ow,_,_,_,hN,rfl⟩:=hG;exact hN.oldS hv
      |[a,b,c,e],hG=>obtain⟨k,ow,_,_,_,_,hN,rfl⟩:=hG;exact hN.oldS hv
     refine .step rfl (zHP (zLD rfl rfl hv' rfl)) ?_
     refine .step rfl (zHP (zLD rfl rfl hv' rfl)) ?_
     refine .step rfl (zHP (zIA rfl rfl rfl (by decide) rfl)) ?_
     refine .step rfl (zHP (zLD rfl rfl hv' rfl)) ?_
     exact .step rfl (zHP (zIA rfl rfl rfl (by decide) rfl)) .nil
    ·rintro vs σ hG p oo hp1 hp2
     match vs,hG with
     |[],hG=>
      subst hG
      cases hp1
      cases hp2
      refine⟨rfl,rfl,.inr ⟨rfl,Q0w.call hΓ rfl rfl rfl rfl (by exact⟨trivial,trivial,trivial,trivial⟩) hou (Qej hΓ q k1 d ou') fun r ow hq _ _=>?_⟩⟩
      obtain⟨k,rfl,hN⟩:=hq
      exact⟨k,ow,rfl,hN,rfl⟩
     |[a],hG=>
      obtain⟨k,ow,rfl,hN,rfl⟩:=hG
      cases hp1
      cases hp2
      exact⟨rfl,rfl,.inl ⟨_,_,HStep.auto tabOk rfl,k,ow,rfl,rfl,hN,rfl⟩⟩
     |[a,b],hG=>
      obtain⟨k,ow,rfl,rfl,hN,rfl⟩:=hG
      cases hp1
      cases hp2
      exact⟨rfl,rfl,.inl ⟨_,_,HStep.auto tabOk rfl,k,ow,rfl,rfl,rfl,hN,rfl⟩⟩
     |[a,b,c],hG=>
      obtain⟨k,ow,rfl,rfl,rfl,hN,rfl⟩:=hG
      cases hp1
      cases hp2
      exact⟨rfl,rfl,.inl ⟨_,_,HStep.auto tabOk rfl,k,ow,rfl,rfl,rfl,rfl,hN,rfl⟩⟩
     |[a,b,c,e],hG=>cases hp1
    rintro vs σ hlen2 hG
    match vs,hlen2,hG with
    |[a,b,c,e],_,hG=>
    obtain⟨k,ow,rfl,rfl,rfl,rfl,hN,rfl⟩:=hG
    have hD0:Der ou' ou' (tailO (.mk i 4 n none [q] [.mk j 7 n2 none b2 [k0,k1] [x1],d] [])) d:=Der.refl (fun p hp=>Q1f hdm hp) hou
    have hD1:=hD0.let hN (PartO.of fun p hp=>Q3h hvm hk1m hp)
    have hnd:(AObj.cells (lC (.mk 0 7 0 none [] [k0,letN k q k1 d] [x1]))).ids isO:=Qem _
    refine AOps.wkObj (.l 0) rfl (cs':=lC (.mk 0 7 0 none [] [k0,letN k q k1 d] [x1])) (fun w C xs h=>?_) ?_
    ·exact (show WkL _ _ from .cons (.refl _) (.cons (.refl _) (.cons (.nilS 1) (.cons (.refl _) (.cons (.refl _) .nil))))) w C xs h
    refine AOps.cedes [0] rfl (by decide) hN.ok fun k' hk'=>⟨[(137,.one (.ptr (.o k') 0))],[],[.cells (lC (.mk k' 7 0 none [] [k0,letN k q k1 d] [x1]))],.cons rfl rfl .nil,.nil,?_,?_⟩
    ·exact .cons rfl (AObj.sub_f (fun i hi=>by cases i with|l q=>exact hi.elim|o q=>rfl) _ hnd) .nil
    have hN2:=NewO.add hk' hN.ok (Qem (.mk k' 7 0 none [] [k0,letN k q k1 d] [x1]))
    refine zA ?_
    refine AFn.fin' rfl (WkF.refl _) (by simp) hN2.ok (ResD.w ho hn ?_)
    rw[hL]
    refine⟨.mk k' 7 0 none [] [k0,letN k q k1 d] [x1],rfl,?_,?_⟩
    ·simp only[erT,erTs,Q9t,List.map_cons,List.map_nil]
    ·refine Der.node (u:=.mk k' 7 0 none [] [k0,letN k q k1 d] [x1]) hD1.old hN2 ?_
     have et:tailO (.mk k' 7 0 none [] [k0,letN k q k1 d] [x1])=objs k0++objs (letN k q k1 d):=by
      simp only[tailO,bO,List.nil_append,objss,List.append_nil,Q6s (show ∀x∈[x1],x.nb=none by simpa using hx1)]
     rw[et]
     exact (PartO.of fun p hp=>Q3h hvm hk0m hp).app hD1.part
   ·have h1:¬a2.length=1:=by simp at hb2;omega
    rw[if_neg (fun h=>h1 h.2.2),if_neg (by simp)]at hL
    refine zA ?_
    exact AFn.fin' rfl (WkF.refl _) (by simp) hou (by rw[hL];exact⟨rfl,hou,fun _ _ h=>h⟩)
  ·have h7:¬op2=7:=by simpa using hb
   rw[if_neg (fun h=>h7 h.2.1),if_neg (by simp)]at hL
   refine zA ?_
   exact AFn.fin' rfl (WkF.refl _) (by simp) hou (by rw[hL];exact⟨rfl,hou,fun _ _ h=>h⟩)
 rw[if_neg (fun h=>h9 h.1)]at hL
 by_cases h11:rule=11
 ·subst h11
  repeat' first|refine zN ?_|((with_reducible refine oj ?_);first|refine zix ?_|refine zow rfl rfl hi ?_|refine zow rfl rfl hv ?_)
  refine AOps.splitS rfl rfl rfl rfl (fun hb=>?_) (fun hb=>?_)
  ·have h2':op2=2:=by simpa using hb
   repeat' first|refine zN ?_|((with_reducible refine oj ?_);first|refine zix ?_|refine zow rfl rfl hi ?_|refine zow rfl rfl hv ?_)
   rw[hlen]
   refine ACode.condS rfl (fun hb2=>?_) (fun hb2=>?_)
   ·have h1:usesN q (erT d)=1:=by simp at hb2;omega
    rw[if_pos ⟨rfl,h2',h1⟩]at hL
    rw[←Q4x]at h1
    obtain⟨x,hx⟩:=List.length_eq_one_iff.1 h1
    have hxm:x∈usesL q d:=by rw[hx];simp
    have hxk:=Q45 q d x hxm
    have hx1:ou' x.id=some (.cells (lC x)):=hdo _ (Qc6 q d x hxm _ (Qh5 x))
    have hvd:∀k∈keys (objs d),k∉keys (objs (.mk j op2 n2 none b2 ks2 a2)):=fun k hk hk2=>hni.2.2.2.2 k hk2 hk
    refine zA ?_
    rw[hx]
    refine ACode.drawX tabOk 6 [(1,.one (.box [.ptr (.o x.id) 0])),(5,.agg [int op2,int n2,.sl 1 (b2.map cI),.sl 1 (kC ks2),.sl 2 (a2.map lAlt)])] follows (by kernel_rfl) rfl rfl rfl rfl ?_ ?_
    ·refine .step rfl (zHP (zIA rfl rfl rfl (by decide) rfl)) ?_
     exact .step rfl (zHP (AStep.loadOwnA tabOk rfl rfl rfl rfl rfl hv)) .nil
    refine zA ?_
    refine AOps.storeOwnA tabOk rfl rfl rfl rfl rfl (by simp[Qlx]) rfl rfl hx1 ?_
    refine zA ?_
    have hvk2:x.id∉keys (tailO (.mk j op2 n2 none b2 ks2 a2)):=fun hm=>hvd _ hxk (by rw[Q0d];exact List.mem_cons_of_mem _ hm)
    have hok2:OuOk (setO ou' x.id (.cells (lC (.mk j op2 n2 none b2 ks2 a2)))):=Qfp hou (Qem _)
    obtain⟨e1,e2,e3⟩:=Qhi (f:=fun k=>if k=x.id then some (Q36 x.id (.mk j op2 n2 none b2 ks2 a2))else none) (q:=q) (d:=d) (V:=erT (.mk j op2 n2 none b2 ks2 a2)) (ov:=setO ou' x.id (.cells (lC (.mk j op2 n2 none b2 ks2 a2)))) (i:=i) hni.2.2.2.1 (Q0z hpl hdm) hni.2.1 (fun k=>by rw[hx];by_cases e:k=x.id <;> simp[e]) (fun k u hu=>by
     by_cases e:k=x.id
     ·rw[if_pos e]at hu
      cases hu
      refine⟨by rw[Q2g,e],Q6f _ _,Q7e (Q8q hvo) hvk2,fun hm=>?_⟩
      rw[Q3g]at hm
      exact hni.1 (by rw[Q0d];exact List.mem_cons_of_mem _ hm)
     ·rw[if_neg e]at hu;cases hu) (fun p hp hf=>by
     by_cases e:p.1=x.id
     ·rw[if_pos e]at hf;cases hf
     ·rw[Q54 e];exact hdo p hp)
    have hid:(putsL (fun k=>if k=x.id then some (Q36 x.id (.mk j op2 n2 none b2 ks2 a2))else none) d).id=d.id:=Qcj (fun k u hu=>by
     by_cases e:k=x.id
     ·rw[if_pos e]at hu;cases hu;rw[Q2g,e]
     ·rw[if_neg e]at hu;cases hu) d
    refine AFn.fin' rfl (WkF.refl _) (by simp) hok2 ?_
    rw[hL]
    refine⟨_,by rw[hid],e1,e2,e3,hok2,fun k o hk hkt=>?_,fun k hk=>?_⟩
    rotate_left
    ·rcases Qea (Q0z hpl hdm) (fun k u hu=>by
      by_cases e:k=x.id
      ·rw[if_pos e]at hu;cases hu;rw[Q2g,e]
      ·rw[if_neg e]at hu;cases hu) k hk with hkd|⟨k',u,hu,hku⟩
     ·obtain⟨o',ho'⟩:=Q1g hkd
      exact .inl (Q0s (Q1f hdm ho'))
     ·by_cases e:k'=x.id
      ·rw[if_pos e]at hu
       cases hu
       rw[Q3g]at hku
       obtain⟨o',ho'⟩:=Q1g hku
       exact .inl (Q0s (Q1f hvm (by rw[Q0d];exact List.mem_cons_of_mem _ ho')))
      ·rw[if_neg e]at hu;cases hu
    have hkd:k≠x.id:=fun e=>by
     obtain⟨o',ho'⟩:=Q1g hxk
     exact hkt (e▸Q0s (Q1f hdm ho'))
    exact (Q54 hkd).trans hk
   ·have h1:¬usesN q (erT d)=1:=by simp at hb2;omega
    rw[if_neg (fun h=>h1 h.2.2)]at hL
    refine zA ?_
    exact AFn.fin' rfl (WkF.refl _) (by simp) hou (by rw[hL];exact⟨rfl,hou,fun _ _ h=>h⟩)
  ·have h2':¬op2=2:=by simpa using hb
   rw[if_neg (fun h=>h2' h.2.1)]at hL
   refine zA ?_
   exact AFn.fin' rfl (WkF.refl _) (by simp) hou (by rw[hL];exact⟨rfl,hou,fun _ _ h=>h⟩)
 rw[if_neg (fun h=>h11 h.1)]at hL
 repeat' first|refine zN ?_|((with_reducible refine oj ?_);first|refine zix ?_|refine zow rfl rfl hi ?_|refine zow rfl rfl hv ?_)|(with_reducible refine oj ?_;refine AOps.splitS rfl rfl rfl rfl (fun hb=>?_) (fun hb=>?_))|(with_reducible refine ok ?_;first|refine ACode.condS rfl (fun hb=>?_) (fun hb=>?_)|refine ACode.cond rfl (fun hb=>?_) (fun hb=>?_))
 all_goals first
  |(exfalso;simp at *;omega)
  |exact AFn.fin' rfl (WkF.refl _) (by simp) hou (by rw[hL];exact⟨rfl,hou,fun _ _ h=>h⟩)
set_option maxHeartbeats 4000000 in
theorem Ql1(hΓ:∀g cs,(g,cs)∈Γ->idsL isO cs)(W:List AC)(hW:idsL isO W)(nodes:List Tr)(root:Tr)(rule at' n:Int)(i:Nat)(o nn:Int)(b:List Int)(ks:List LTr)(a:List LAlt)(hpl:Q24 (.mk i o nn none b ks a))(hok:okT (erT (.mk i o nn none b ks a)))(hsh:allT shpL (erT (.mk i o nn none b ks a)))(hc:cntN (erT (.mk i o nn none b ks a))<=1048576)
  (hrg:∀s∈ks,(erT s).op=1->-1073741824<=(erT s).n/\(erT s).n<=1073741823) (ou:Outer) (ho:Owns ou (objs (.mk i o nn none b ks a))) (hn:(keys (objs (.mk i o nn none b ks a))).Nodup)
  (hN:rule=10->AFn Tryz.prog Γ 109 [.one (.box W),.one (.ptr (.o i) 0),.one (int n)] ou (ResW ou (.mk i o nn none b ks a) (Q8d root (erT (.mk i o nn none b ks a)) n)))
  (hU:rule=12->o=0->AFn Tryz.prog Γ 110 [.one (.box W),.one (.ptr (.o i) 0)] ou (ResW ou (.mk i o nn none b ks a) (Q4z nodes root (erT (.mk i o nn none b ks a))))):
  AFn Tryz.prog Γ 87 [.one (.box W),.agg [int rule,int at',int n],.one (.ptr (.o i) 0)] ou (ResW ou (.mk i o nn none b ks a) (resT nodes root rule n (erT (.mk i o nn none b ks a)))):=by
 have hi:ou i=some (.cells (lC (.mk i o nn none b ks a))):=Q09 ho
 simp only[lC,bC]at hi
 have hbl:b.length<=1048576:=hok.1
 have hkl:ks.length<=1048576:=by have:=hok.2.1;simpa[Q0g]using this
 obtain⟨t,hte⟩:∃t,t=LTr.mk i o nn none b ks a:=⟨_,rfl⟩
 have hti:t.id=i:=by rw[hte];rfl
 obtain⟨X,hX⟩:∃X,X=resT nodes root rule n (erT t):=⟨_,rfl⟩
 obtain⟨B,hB⟩:∃B:Bool,B=decide (rule=1/\(erT t).op=3/\(kidT (erT t) 0).op=2/\((kidT (erT t) 0).binds.length:Int)=(erT t).kids.length - 1):=⟨_,rfl⟩
 have hop:(erT t).op=o:=by rw[hte];rfl
 rw[←hte,←hX]
 unfold resT at hX
 rw[hop]at hX hB
 refine AFn.walk 206 tabOk Tryz.func87 rfl (by kernel_rfl) rfl rfl fun hou=>?_
 have hW1:∀k,idsL (inL k) W:=fun k=>Q18 (fun i hi=>by cases i with|l q=>exact hi.elim|o q=>trivial) W hW
 have hnil:X=none->ResW ou t X nilP ou:=fun h=>by rw[h];exact⟨rfl,hou,fun _ _ h=>h⟩
 refine zA ?_
 refine AOps.cutN 0 rfl hΓ (α:=Unit) (fun _=>[(14,.one (.lit (.bool (decide (n≠0/\rule≠10))))),(4,.one (.ptr (.l 0) 0)),(2,.one (.ptr (.o i) 0)),(0,.one (.box W))]) (fun _=>⟨1,[(0,.cells [int rule,int at',int n])],ou⟩) (fun _=>True) ?_ fun _ _=>?_
 ·dsimp only [List.take_zero,List.nil_append]
  refine AOps.splitS rfl rfl rfl rfl (fun hb=>?_) (fun hb=>?_)
  ·have hn0:n≠0:=by simpa using hb
   refine zA ?_
   refine cInv ⟨(),id,trivial,LessR.of rfl (FrSub.cons rfl (.ofEq ?_) (FrSub.cons rfl (.ofEq rfl) (FrSub.cons rfl (.ofEq rfl) (FrSub.consP rfl (.ofEq rfl) (by simp[hW]) .nil)))) (by simp[hW1]) zLO rfl rfl hou⟩
   simp only[FV.ren,AC.ren]
   congr 3
   rw[Bool.eq_iff_iff];simp[hn0]
  ·have hn0:n=0:=by simpa using hb
   refine zA ?_
   refine cInv ⟨(),id,trivial,LessR.of rfl (FrSub.cons rfl (.ofEq ?_) (FrSub.cons rfl (.ofEq rfl) (FrSub.cons rfl (.ofEq rfl) (FrSub.consP rfl (.ofEq rfl) (by simp[hW]) .nil)))) (by simp[hW1]) zLO rfl rfl hou⟩
   simp only[FV.ren,AC.ren]
   congr 3
   symm;simp[hn0]
 refine ACode.condS rfl (fun hb=>?_) (fun hb=>?_)
 ·have h1:n≠0/\rule≠10:=by simpa using hb
  rw[if_pos h1]at hX
  refine zA ?_
  exact AFn.fin' rfl (WkF.refl _) (by simp) hou (hnil hX)
 have h1:¬(n≠0/\rule≠10):=by simpa using hb
 rw [if_neg h1] at hX
 refine zA ?_
 refine ACode.cutN 0 rfl hΓ (α:=Unit) (fun _=>[(15,.one (.lit (.bool B))),(4,.one (.ptr (.l 0) 0)),(2,.one (.ptr (.o i) 0)),(0,.one (.box W))]) (fun _=>⟨1,[(0,.cells [int rule,int at',int n])],ou⟩) (fun _=>True) ?_ fun _ _=>?_
 ·dsimp only [List.take_zero,List.nil_append]
  by_cases hr1:rule=1
  ·by_cases h3:o=3
   ·obtain⟨k0,ks',rfl⟩:∃k0 ks',ks=k0::ks':=by
     have:=(Qcd (o:=o) (n:=nn) (b:=b) (k:=erTs ks) (a:=a.map LAlt.er) hsh h3).1
     cases ks with
     |nil=>simp[erTs]at this
     |cons k0 ks'=>exact⟨k0,ks',rfl⟩
    have hk0m:k0∈(LTr.mk i o nn none b (k0::ks') a).kids:=by simp[LTr.kids]
    have hkt:kidT (erT t) 0=erT k0:=by rw[hte];rfl
    have hkl2:(erT t).kids.length=ks'.length+1:=by rw[hte,Q41];simp[LTr.kids]
    rw[hkt,hkl2]at hB
    have hk0o:=Q14 ho hk0m
    have hpk0:=Q0z hpl hk0m
    have hk0b:(erT k0).binds.length<=1048576:=by
     have:=Q2k hok (Q1y hk0m)
     cases hek:erT k0 with
     |mk o' n' b' k' a'=>rw[hek]at this;exact this.1
    cases k0 with
    |mk j op2 n2 nb2 b2 ks2 a2=>
    obtain rfl:nb2=none:=hpk0.1
    have hj:ou j=some (.cells (lC (.mk j op2 n2 none b2 ks2 a2))):=Q09 hk0o
    simp only[lC,bC]at hj
    have hB:B=decide (rule=1/\o=3/\op2=2/\((b2.length:Int)=((ks'.length+1:Nat):Int) - 1)):=hB
    have hk0b:b2.length<=1048576:=hk0b
    by_cases h2:op2=2
    ·refine ACode.drawX tabOk 41 [(2,.one (.lit (.bool true))),(7,.one (int o)),(8,.one (.lit (.bool true))),(14,.one (.sl 1 (kC (.mk j op2 n2 none b2 ks2 a2::ks')))),(15,.one (.box [.ptr (.o j) 0])),(19,.one (int op2)),(20,.one (.lit (.bool true))),(26,.one (.sl 1 (kC (.mk j op2 n2 none b2 ks2 a2::ks')))),(27,.one (.box [.ptr (.o j) 0])),(31,.one (.sl 1 (b2.map cI))),(36,.one (.sl 1 (kC (.mk j op2 n2 none b2 ks2 a2::ks')))),(38,.one (int (((kC (.mk j op2 n2 none b2 ks2 a2::ks')).length:Int) - 1)))] follows (by kernel_rfl) rfl rfl rfl rfl ?_ ?_
     ·refine .step rfl (HStep.litB tabOk rfl (by simp[hr1])) ?_
      refine .step rfl (HStep.guarded rfl rfl rfl (zLD rfl rfl hi rfl)) ?_
      refine .step rfl (HStep.litB tabOk rfl (by simp[h3])) ?_
      refine .step rfl (HStep.guarded rfl rfl rfl (zLD rfl rfl hi rfl)) ?_
      refine .step rfl (HStep.guarded rfl rfl rfl (zIA rfl rfl rfl (by decide) rfl)) ?_
      refine .step rfl (HStep.guarded rfl rfl rfl (zLD rfl rfl hj rfl)) ?_
      refine .step rfl (HStep.litB tabOk rfl (by simp[h2])) ?_
      refine .step rfl (HStep.guarded rfl rfl rfl (zLD rfl rfl hi rfl)) ?_
      refine .step rfl (HStep.guarded rfl rfl rfl (zIA rfl rfl rfl (by decide) rfl)) ?_
      refine .step rfl (HStep.guarded rfl rfl rfl (zLD rfl rfl hj rfl)) ?_
      refine .step rfl (HStep.guarded rfl rfl rfl (zLD rfl rfl hi rfl)) ?_
      exact .step rfl (HStep.guarded rfl rfl rfl (AStep.arith rfl rfl rfl (.inr (.inl ⟨rfl,rfl⟩)) (Q2v (by rw[Q0q];have:(0:Int)<=((LTr.mk j op2 n2 none b2 ks2 a2::ks').length:Int):=Int.natCast_nonneg _;omega) (by rw[Q0q];omega)))) .nil
     refine zA ?_
     refine cInv ⟨(),id,trivial,LessR.of rfl (FrSub.cons rfl (.ofEq ?_) (FrSub.cons rfl (.ofEq rfl) (FrSub.cons rfl (.ofEq rfl) (FrSub.consP rfl (.ofEq rfl) (by simp[hW]) .nil)))) (by simp[hW1]) zLO rfl rfl hou⟩
     simp only[FV.ren,AC.ren]
     congr 3
     rw[hB,Bool.eq_iff_iff]
     simp[Q0q,hr1,h3,h2]
    ·refine ACode.drawX tabOk 41 [(2,.one (.lit (.bool true))),(7,.one (int o)),(8,.one (.lit (.bool true))),(14,.one (.sl 1 (kC (.mk j op2 n2 none b2 ks2 a2::ks')))),(15,.one (.box [.ptr (.o j) 0])),(19,.one (int op2)),(20,.one (.lit (.bool false)))] follows (by kernel_rfl) rfl rfl rfl rfl ?_ ?_
     ·refine .step rfl (HStep.litB tabOk rfl (by simp[hr1])) ?_
      refine .step rfl (HStep.guarded rfl rfl rfl (zLD rfl rfl hi rfl)) ?_
      refine .step rfl (HStep.litB tabOk rfl (by simp[h3])) ?_
      refine .step rfl (HStep.guarded rfl rfl rfl (zLD rfl rfl hi rfl)) ?_
      refine .step rfl (HStep.guarded rfl rfl rfl (zIA rfl rfl rfl (by decide) rfl)) ?_
      refine .step rfl (HStep.guarded rfl rfl rfl (zLD rfl rfl hj rfl)) ?_
      exact .step rfl (HStep.litB tabOk rfl (by simp[h2])) .nil
     refine zA ?_
     refine cInv ⟨(),id,trivial,LessR.of rfl (FrSub.cons rfl (.ofEq ?_) (FrSub.cons rfl (.ofEq rfl) (FrSub.cons rfl (.ofEq rfl) (FrSub.consP rfl (.ofEq rfl) (by simp[hW]) .nil)))) (by simp[hW1]) zLO rfl rfl hou⟩
     simp only[FV.ren,AC.ren]
     congr 3
     rw[hB];simp[h2]
   ·refine ACode.drawX tabOk 41 [(2,.one (.lit (.bool true))),(7,.one (int o)),(8,.one (.lit (.bool false)))] follows (by kernel_rfl) rfl rfl rfl rfl ?_ ?_
    ·refine .step rfl (HStep.litB tabOk rfl (by simp[hr1])) ?_
     refine .step rfl (HStep.guarded rfl rfl rfl (zLD rfl rfl hi rfl)) ?_
     exact .step rfl (HStep.litB tabOk rfl (by simp[h3])) .nil
    refine zA ?_
    refine cInv ⟨(),id,trivial,LessR.of rfl (FrSub.cons rfl (.ofEq ?_) (FrSub.cons rfl (.ofEq rfl) (FrSub.cons rfl (.ofEq rfl) (FrSub.consP rfl (.ofEq rfl) (by simp[hW]) .nil)))) (by simp[hW1]) zLO rfl rfl hou⟩
    simp only[FV.ren,AC.ren]
    congr 3
    rw[hB];simp[h3]
  ·refine ACode.drawX tabOk 41 [(2,.one (.lit (.bool false)))] follows (by kernel_rfl) rfl rfl rfl rfl ?_ ?_
   ·exact .step rfl (HStep.litB tabOk rfl (by simp[hr1])) .nil
   refine zA ?_
   refine cInv ⟨(),id,trivial,LessR.of rfl (FrSub.cons rfl (.ofEq ?_) (FrSub.cons rfl (.ofEq rfl) (FrSub.cons rfl (.ofEq rfl) (FrSub.consP rfl (.ofEq rfl) (by simp[hW]) .nil)))) (by simp[hW1]) zLO rfl rfl hou⟩
   simp only[FV.ren,AC.ren]
   congr 3
   rw[hB];simp[hr1]
 refine ACode.condS rfl (fun hb=>?_) (fun hb=>?_)
 ·rw[hb]at hB
  have hB:=of_decide_eq_true hB.symm
  rw[if_pos hB]at hX
  obtain⟨hr1,h3,h2,h4⟩:=hB
  obtain⟨k0,ks',rfl⟩:∃k0 ks',ks=k0::ks':=by
   have:=(Qcd (o:=o) (n:=nn) (b:=b) (k:=erTs ks) (a:=a.map LAlt.er) hsh h3).1
   cases ks with
   |nil=>simp[erTs]at this
   |cons k0 ks'=>exact⟨k0,ks',rfl⟩
  have hk0m:k0∈(LTr.mk i o nn none b (k0::ks') a).kids:=by simp[LTr.kids]
  have hkt:kidT (erT t) 0=erT k0:=by rw[hte];rfl
  have hkl2:(erT t).kids=erT k0::ks'.map erT:=by rw[hte,Q41];rfl
  rw[hkt]at h2 h4 hX
  rw[hkl2]at h4 hX
  have hk0o:=Q14 ho hk0m
  have hpk0:=Q0z hpl hk0m
  have hk0s:=Q1x hsh (Q1y hk0m)
  cases k0 with
  |mk j op2 n2 nb2 b2 ks2 a2=>
  obtain rfl:nb2=none:=hpk0.1
  obtain rfl:op2=2:=h2
  obtain⟨body,rfl⟩:∃body,ks2=[body]:=by
   have:=(shp_lam (o:=2) (n:=n2) (b:=b2) (k:=erTs ks2) (a:=a2.map LAlt.er) hk0s rfl).1
   rw[Q0g,List.length_map]at this
   exact List.length_eq_one_iff.1 this
  have hj:ou j=some (.cells (lC (.mk j 2 n2 none b2 [body] a2))):=Q09 hk0o
  simp only[lC,bC]at hj
  have hbm:body∈(LTr.mk j 2 n2 none b2 [body] a2).kids:=by simp[LTr.kids]
  have h4:b2.length=ks'.length:=by
   have h5:((b2.length:Nat):Int)=(((erT (.mk j 2 n2 none b2 [body] a2)::ks'.map erT).length:Nat):Int) - 1:=h4
   simp at h5;omega
  have hX:X=some (letsT b2 (ks'.map erT) (erT body)):=hX
  have hkl':ks'.length<=1048576:=by simp at hkl;omega
  refine zA ?_
  refine ACode.drawC tabOk 26 [25] [(3,.one (.sl 1 (kC (.mk j 2 n2 none b2 [body] a2::ks')))),(4,.one (.box [.ptr (.o j) 0])),(8,.one (.sl 1 (b2.map cI))),(12,.one (.sl 1 (kC (.mk j 2 n2 none b2 [body] a2::ks')))),(13,.one (.sl 1 (kC ks'))),(17,.one (.sl 1 (kC (.mk j 2 n2 none b2 [body] a2::ks')))),(18,.one (.box [.ptr (.o j) 0])),(22,.one (.sl 1 (kC [body]))),(23,.one (.box [.ptr (.o body.id) 0]))] (fun vs σ=>match vs with
    |[]=>σ=⟨1,[(0,.cells [int rule,int at',int n])],ou⟩
    |[r]=>∃(u:LTr) (ow:Outer),r=.one (.ptr (.o u.id) 0)/\erT u=letsT b2 (ks'.map erT) (erT body)/\Der ou ow (objss ks'++objs body) u/\σ=⟨1,[(0,.cells [int rule,int at',int n])],ow⟩
    |_=>False) follows (by kernel_rfl) rfl rfl (by decide) (by kernel_rfl) (by kernel_rfl) rfl rfl ?_ ?_ (by decide) ?_ ?_
  ·rintro vs σ hG
   match vs,hG with
   |[],hG=>subst hG;rfl
   |[r],hG=>obtain⟨u,ow,_,_,_,rfl⟩:=hG;rfl
  ·rintro vs σ hG
   have hv':σ.ou j=some (.cells [int 2,int n2,.sl 1 (b2.map cI),.sl 1 (kC [body]),.sl 2 (a2.map lAlt)])/\σ.ou i=some (.cells [int o,int nn,.sl 1 (b.map cI),.sl 1 (kC (.mk j 2 n2 none b2 [body] a2::ks')),.sl 2 (a.map lAlt)]):=by
    match vs,hG with
    |[],hG=>subst hG;exact⟨hj,hi⟩
    |[r],hG=>obtain⟨u,ow,_,_,hD,rfl⟩:=hG;exact⟨hD.old _ _ hj,hD.old _ _ hi⟩
   refine .step rfl (zHP (zLD rfl rfl hv'.2 rfl)) ?_
   refine .step rfl (zHP (zIA rfl rfl rfl (by decide) rfl)) ?_
   refine .step rfl (zHP (zLD rfl rfl hv'.1 rfl)) ?_
   refine .step rfl (zHP (zLD rfl rfl hv'.2 rfl)) ?_
   refine .step rfl (zHP (AStep.sliceFrom (b:=1) (es:=kC (.mk j 2 n2 none b2 [body] a2::ks')) tabOk rfl rfl rfl rfl rfl rfl rfl (by rw[Q0q];simp))) ?_
   refine .step rfl (zHP (zLD rfl rfl hv'.2 rfl)) ?_
   refine .step rfl (zHP (zIA rfl rfl rfl (by decide) rfl)) ?_
   refine .step rfl (zHP (zLD rfl rfl hv'.1 rfl)) ?_
   exact .step rfl (zHP (zIA rfl rfl rfl (by decide) rfl)) .nil
  ·rintro vs σ hG p oo hp1 hp2
   match vs,hG with
   |[],hG=>
    subst hG
    cases hp1
    cases hp2
    refine⟨rfl,rfl,.inr ⟨rfl,Q0w.call hΓ rfl rfl rfl rfl (by exact⟨by simp,by simp,trivial,trivial⟩) hou (Qlu hΓ b2 ks' body h4 hkl' ou) fun r ow hq _ _=>?_⟩⟩
    obtain⟨u,rfl,he,hD⟩:=hq
    exact⟨u,ow,rfl,he,hD,rfl⟩
   |[r],hG=>cases hp1
  rintro vs σ hlen2 hG
  match vs,hlen2,hG with
  |[r],_,hG=>
  obtain⟨u,ow,rfl,he,hD,rfl⟩:=hG
  refine zM ?_
  refine AFn.fin' rfl (WkF.refl _) (by simp) hD.ok ?_
  rw[hX,hte]
  refine ResD.w ho hn ⟨u,rfl,he,hD.mono fun p hp=>?_⟩
  rcases List.mem_append.1 hp with hp|hp
  ·rw[Q3s]at hp
   obtain⟨s2,hs2,hp2⟩:=List.mem_flatMap.1 hp
   exact Q1f (by simp[LTr.kids,hs2]) hp2
  ·exact Q3h hk0m hbm hp
 rw[hb]at hB
 have hB:=of_decide_eq_false hB.symm
 rw[if_neg hB]at hX
 by_cases h4:o=4
 ·subst h4
  by_cases h10:rule=10
  ·subst h10
   rw[if_neg (by simp),if_neg (by simp),if_neg (by simp),if_neg (by simp),if_neg (by simp),if_pos rfl]at hX
   have hN:=hN rfl
   rw[←hte,←hX]at hN
   repeat' first|refine zN ?_|((with_reducible refine oj ?_);first|refine zix ?_|refine zow rfl rfl hi ?_)
   refine AOps.call1 hΓ rfl rfl rfl rfl rfl rfl rfl (by exact⟨hW,trivial,trivial,trivial⟩) hou hN fun r ow hq hids how=>?_
   refine zA ?_
   exact AFn.fin' rfl (WkF.refl _) hids how hq
  ·obtain⟨q,y0,y1,hb2,hk2,ha2⟩:=Q99 (o:=4) (n:=nn) (b:=b) (k:=erTs ks) (a:=a.map LAlt.er) hsh rfl
   obtain⟨v,d,rfl⟩:∃v d,ks=[v,d]:=by
    rw[Q0g]at hk2
    match ks,hk2 with
    |[v,d],_=>exact⟨v,d,rfl⟩
   obtain rfl:a=[]:=by simpa using ha2
   subst hb2
   rw[if_pos ⟨rfl,h10⟩]at hX
   have hL:=Qjl hΓ rule i nn q v d hpl hok hsh hc ou ho hn
   rw[←hte,←hX]at hL
   repeat' first|refine zN ?_|((with_reducible refine oj ?_);first|refine zix ?_|refine zow rfl rfl hi ?_)
   refine ACode.condS rfl (fun hb10=>?_) (fun hb10=>absurd hb10 (by simp[h10]))
   refine zA ?_
   refine AOps.call1 hΓ rfl rfl rfl rfl rfl rfl rfl (by exact⟨trivial,trivial,trivial⟩) hou hL fun r ow hq hids how=>?_
   refine zA ?_
   exact AFn.fin' rfl (WkF.refl _) hids how hq
 rw[if_neg (fun h=>h4 h.1)]at hX
 by_cases hr4:rule=4
 ·subst hr4
  rw[if_neg (fun h:(4:Int)=5/\_=>absurd h.1 (by decide)),if_neg (fun h:(4:Int)=6/\_=>absurd h.1 (by decide)),if_neg (fun h:(4:Int)=7/\_=>absurd h.1 (by decide)),if_neg (by decide:¬(4:Int)=10),if_neg (fun h:(4:Int)=12/\_=>absurd h.1 (by decide))]at hX
  repeat' first|refine zN ?_|((with_reducible refine oj ?_);first|refine zix ?_|refine zow rfl rfl hi ?_)
  refine AOps.splitS rfl rfl rfl rfl (fun hb4=>absurd (by simpa using hb4) h4) (fun hb4=>?_)
  repeat' first|refine zN ?_|((with_reducible refine oj ?_);first|refine zix ?_|refine zow rfl rfl hi ?_)
  refine AOps.splitS rfl rfl rfl rfl (fun hb5=>?_) (fun hb5=>?_)
  ·have h5:o=5:=by simpa using hb5
   subst h5
   have hrl:=(Qcc (o:=5) (n:=nn) (b:=b) (k:=erTs ks) (a:=a.map LAlt.er) hsh rfl).1
   rw[Q0g,List.length_map]at hrl
   have hun:=Qdo hΓ i 5 nn b ks a hok hc (by omega) ou ho
   rw[←hte]at hun
   repeat' first|refine zN ?_|((with_reducible refine oj ?_);first|refine zix ?_|refine zow rfl rfl hi ?_)
   refine AOps.call1 hΓ rfl rfl rfl rfl rfl rfl rfl (by exact⟨trivial,trivial⟩) hou hun fun r ow hq _ how=>?_
   obtain⟨rfl,rfl⟩:=hq
   refine zA ?_
   refine ACode.condS rfl (fun hbu=>?_) (fun hbu=>?_)
   ·rw[if_pos ⟨rfl,rfl,hbu⟩]at hX
    obtain⟨s,hs⟩:=Q00 (l:=ks) (i:=b.length) (by omega)
    have hsm:=List.mem_of_getElem? hs
    refine zA ?_
    refine ACode.drawX tabOk 11 [(3,.one (.sl 1 (kC ks))),(7,.one (.sl 1 (b.map cI))),(9,.one (.box [.ptr (.o s.id) 0]))] follows (by kernel_rfl) rfl rfl rfl rfl ?_ ?_
    ·refine .step rfl (zHP (zLD rfl rfl hi rfl)) ?_
     refine .step rfl (zHP (zLD rfl rfl hi rfl)) ?_
     exact .step rfl (zHP (zIA rfl rfl rfl (by simp) (by simpa using Q2n hs))) .nil
    refine zA ?_
    refine AFn.fin' rfl (WkF.refl _) (by simp) hou ?_
    have hke:kidT (erT t) (erT t).binds.length=erT s:=by
     rw[hte]
     unfold kidT
     rw[Q41,List.getD_eq_getElem?_getD,List.getElem?_map]
     show (ks[b.length]?.map erT).getD default=erT s
     rw[hs];rfl
    rw[hke]at hX
    rw[hX,hte]
    exact ResD.w ho hn ⟨s,rfl,rfl,Der.refl (fun p hp=>Q1f hsm hp) hou⟩
   ·rw[if_neg (by rw[hbu];simp)]at hX
    repeat' first|refine zN ?_|((with_reducible refine oj ?_);first|refine zix ?_|refine zow rfl rfl hi ?_)
    exact AFn.fin' rfl (WkF.refl _) (by simp) hou (hnil hX)
  ·have h5:¬o=5:=by simpa using hb5
   rw[if_neg (fun h=>h5 h.2.1)]at hX
   repeat' first|refine zN ?_|((with_reducible refine oj ?_);first|refine zix ?_|refine zow rfl rfl hi ?_)
   exact AFn.fin' rfl (WkF.refl _) (by simp) hou (hnil hX)
 rw[if_neg (fun h=>hr4 h.1)]at hX
 by_cases hr5:rule=5
 ·subst hr5
  rw[if_neg (fun h:(5:Int)=6/\_=>absurd h.1 (by decide)),if_neg (fun h:(5:Int)=7/\_=>absurd h.1 (by decide)),if_neg (by decide:¬(5:Int)=10),if_neg (fun h:(5:Int)=12/\_=>absurd h.1 (by decide))]at hX
  repeat' first|refine zN ?_|((with_reducible refine oj ?_);first|refine zix ?_|refine zow rfl rfl hi ?_)
  refine AOps.splitS rfl rfl rfl rfl (fun hb4=>absurd (by simpa using hb4) h4) (fun hb4=>?_)
  repeat' first|refine zN ?_|((with_reducible refine oj ?_);first|refine zix ?_|refine zow rfl rfl hi ?_)
  refine AOps.splitS rfl rfl rfl rfl (fun hb5=>?_) (fun hb5=>?_)
  ·have h5:o=7:=by simpa using hb5
   subst h5
   have hrl:=(Q8n (o:=7) (n:=nn) (b:=b) (k:=erTs ks) (a:=a.map LAlt.er) hsh rfl).1
   rw[Q0g,List.length_map,List.length_map]at hrl
   obtain⟨con,rs,rfl⟩:∃con rs,ks=con::rs:=by
    cases ks with
    |nil=>simp at hrl
    |cons c r=>exact⟨c,r,rfl⟩
   have hrm:con∈(LTr.mk i 7 nn none b (con::rs) a).kids:=by simp[LTr.kids]
   have hpc:=Q0z hpl hrm
   have hch:=Qf3 hΓ i 7 nn b con rs a hpc hpl.2.1 (by simpa using hrl) hok hsh ou ho
   have hro:=Q14 ho hrm
   have hcop:(kidT (erT t) 0).op=(erT con).op:=by rw[hte];rfl
   rw[hcop]at hX
   cases con with
   |mk j op2 n2 nb2 b2 ks2 a2=>
   have hj:ou j=some (.cells (lC (.mk j op2 n2 nb2 b2 ks2 a2))):=Q09 hro
   simp only[lC,bC]at hj
   repeat' first|refine zN ?_|((with_reducible refine oj ?_);first|refine zix ?_|refine zow rfl rfl hi ?_|refine zow rfl rfl hj ?_)
   refine ACode.condS rfl (fun hb6=>?_) (fun hb6=>?_)
   ·have h6:op2=6:=by simpa using hb6
    rw[if_pos ⟨rfl,rfl,h6⟩]at hX
    rw[←hte,←hX]at hch
    refine zA ?_
    refine AOps.call1 hΓ rfl rfl rfl rfl rfl rfl rfl (by exact⟨trivial,trivial⟩) hou hch fun r ow hq hids how=>?_
    refine zA ?_
    exact AFn.fin' rfl (WkF.refl _) hids how (by rw[hte]at hq ⊢;exact ResD.w ho hn hq)
   ·have h6:¬op2=6:=by simpa using hb6
    rw[if_neg (fun h=>h6 h.2.2)]at hX
    repeat' first|refine zN ?_|((with_reducible refine oj ?_);first|refine zix ?_|refine zow rfl rfl hi ?_)
    exact AFn.fin' rfl (WkF.refl _) (by simp) hou (hnil hX)
  ·have h5:¬o=7:=by simpa using hb5
   rw[if_neg (fun h=>h5 h.2.1)]at hX
   repeat' first|refine zN ?_|((with_reducible refine oj ?_);first|refine zix ?_|refine zow rfl rfl hi ?_)
   exact AFn.fin' rfl (WkF.refl _) (by simp) hou (hnil hX)
 rw[if_neg (fun h=>hr5 h.1)]at hX
 by_cases hr6:rule=6
 ·subst hr6
  rw[if_neg (fun h:(6:Int)=7/\_=>absurd h.1 (by decide)),if_neg (by decide:¬(6:Int)=10),if_neg (fun h:(6:Int)=12/\_=>absurd h.1 (by decide))]at hX
  have hkl3:(erT t).kids.length=ks.length:=by rw[hte,Q41];simp[LTr.kids]
  rw[hkl3]at hX
  repeat' first|refine zN ?_|((with_reducible refine oj ?_);first|refine zix ?_|refine zow rfl rfl hi ?_)
  refine AOps.splitS rfl rfl rfl rfl (fun hb4=>absurd (by simpa using hb4) h4) (fun hb4=>?_)
  repeat' first|refine zN ?_|((with_reducible refine oj ?_);first|refine zix ?_|refine zow rfl rfl hi ?_)
  refine AOps.splitS rfl rfl rfl rfl (fun hb5=>?_) (fun hb5=>?_)
  ·have h5:o=8:=by simpa using hb5
   subst h5
   repeat' first|refine zN ?_|((with_reducible refine oj ?_);first|refine zix ?_|refine zow rfl rfl hi ?_)
   refine ACode.condS rfl (fun hb6=>?_) (fun hb6=>?_)
   ·have h6:ks.length=2:=by simp[Q0q]at hb6;omega
    rw[if_pos ⟨rfl,rfl,h6⟩]at hX
    obtain⟨x,y,rfl⟩:∃x y,ks=[x,y]:=by
     match ks,h6 with
     |[x,y],_=>exact⟨x,y,rfl⟩
    have har:=Qip hΓ i 8 nn b x y a (hrg x (by simp)) (hrg y (by simp)) ou ho
    rw[←hte,←hX]at har
    refine zA ?_
    refine AOps.call1 hΓ rfl rfl rfl rfl rfl rfl rfl (by exact⟨trivial,trivial⟩) hou har fun r ow hq hids how=>?_
    refine zA ?_
    exact AFn.fin' rfl (WkF.refl _) hids how (by rw[hte]at hq ⊢;exact ResD.w ho hn hq)
   ·have h6:¬ks.length=2:=by simp[Q0q]at hb6;omega
    rw[if_neg (fun h=>h6 h.2.2)]at hX
    repeat' first|refine zN ?_|((with_reducible refine oj ?_);first|refine zix ?_|refine zow rfl rfl hi ?_)
    exact AFn.fin' rfl (WkF.refl _) (by simp) hou (hnil hX)
  ·have h5:¬o=8:=by simpa using hb5
   rw[if_neg (fun h=>h5 h.2.1)]at hX
   repeat' first|refine zN ?_|((with_reducible refine oj ?_);first|refine zix ?_|refine zow rfl rfl hi ?_)
   exact AFn.fin' rfl (WkF.refl _) (by simp) hou (hnil hX)
 rw[if_neg (fun h=>hr6 h.1)]at hX
 by_cases hr7:rule=7
 ·subst hr7
  rw[if_neg (by decide:¬(7:Int)=10),if_neg (fun h:(7:Int)=12/\_=>absurd h.1 (by decide))]at hX
  repeat' first|refine zN ?_|((with_reducible refine oj ?_);first|refine zix ?_|refine zow rfl rfl hi ?_)
  refine AOps.splitS rfl rfl rfl rfl (fun hb4=>absurd (by simpa using hb4) h4) (fun hb4=>?_)
  repeat' first|refine zN ?_|((with_reducible refine oj ?_);first|refine zix ?_|refine zow rfl rfl hi ?_)
  refine ACode.condS rfl (fun hb5=>?_) (fun hb5=>?_)
  ·have h5:o=10:=by simpa using hb5
   subst h5
   have hrl:=Qkm (o:=10) (n:=nn) (b:=b) (k:=erTs ks) (a:=a.map LAlt.er) hsh rfl
   rw[Q0g,List.length_map]at hrl
   obtain⟨row,rfl⟩:=List.length_eq_one_iff.1 hrl
   rw[if_pos ⟨rfl,rfl⟩]at hX
   have hfi:=Qig hΓ i 10 nn b row [] a (Q0z hpl (by simp[LTr.kids])) hok hsh ou ho
   rw[←hte,←hX]at hfi
   refine zA ?_
   refine AOps.call1 hΓ rfl rfl rfl rfl rfl rfl rfl (by exact⟨trivial,trivial⟩) hou hfi fun r ow hq hids how=>?_
   refine zA ?_
   exact AFn.fin' rfl (WkF.refl _) hids how (by rw[hte]at hq ⊢;exact ResD.w ho hn hq)
  ·have h5:¬o=10:=by simpa using hb5
   rw[if_neg (fun h=>h5 h.2)]at hX
   repeat' first|refine zN ?_|((with_reducible refine oj ?_);first|refine zix ?_|refine zow rfl rfl hi ?_)
   exact AFn.fin' rfl (WkF.refl _) (by simp) hou (hnil hX)
 rw[if_neg (fun h=>hr7 h.1)]at hX
 by_cases hr10:rule=10
 ·subst hr10
  rw[if_pos rfl]at hX
  have hN:=hN rfl
  rw[←hte,←hX]at hN
  repeat' first|refine zN ?_|((with_reducible refine oj ?_);first|refine zix ?_|refine zow rfl rfl hi ?_)
  refine AOps.splitS rfl rfl rfl rfl (fun hb4=>absurd (by simpa using hb4) h4) (fun hb4=>?_)
  repeat' first|refine zN ?_|((with_reducible refine oj ?_);first|refine zix ?_|refine zow rfl rfl hi ?_)
  refine AOps.call1 hΓ rfl rfl rfl rfl rfl rfl rfl (by exact⟨hW,trivial,trivial,trivial⟩) hou hN fun r ow hq hids how=>?_
  refine zA ?_
  exact AFn.fin' rfl (WkF.refl _) hids how hq
 rw[if_neg hr10]at hX
 by_cases hr12:rule=12
 ·subst hr12
  repeat' first|refine zN ?_|((with_reducible refine oj ?_);first|refine zix ?_|refine zow rfl rfl hi ?_)
  refine AOps.splitS rfl rfl rfl rfl (fun hb4=>absurd (by simpa using hb4) h4) (fun hb4=>?_)
  repeat' first|refine zN ?_|((with_reducible refine oj ?_);first|refine zix ?_|refine zow rfl rfl hi ?_)
  refine ACode.condS rfl (fun hb5=>?_) (fun hb5=>?_)
  ·have h5:o=0:=by simpa using hb5
   rw[if_pos ⟨rfl,h5⟩]at hX
   have hU:=hU rfl h5
   rw[←hte,←hX]at hU
   refine zA ?_
   refine AOps.call1 hΓ rfl rfl rfl rfl rfl rfl rfl (by exact⟨hW,trivial,trivial⟩) hou hU fun r ow hq hids how=>?_
   refine zA ?_
   exact AFn.fin' rfl (WkF.refl _) hids how hq
  ·have h5:¬o=0:=by simpa using hb5
   rw[if_neg (fun h=>h5 h.2)]at hX
   refine zA ?_
   exact AFn.fin' rfl (WkF.refl _) (by simp) hou (hnil hX)
 rw[if_neg (fun h=>hr12 h.1)]at hX
 repeat' first|refine zN ?_|((with_reducible refine oj ?_);first|refine zix ?_|refine zow rfl rfl hi ?_)|(with_reducible refine oj ?_;refine AOps.splitS rfl rfl rfl rfl (fun hb=>?_) (fun hb=>?_))|(with_reducible refine ok ?_;first|refine ACode.condS rfl (fun hb=>?_) (fun hb=>?_)|refine ACode.cond rfl (fun hb=>?_) (fun hb=>?_))
 all_goals first
  |(exfalso;simp at *;omega)
  |exact AFn.fin' rfl (WkF.refl _) (by simp) hou (hnil hX)
def OpenQ (e:List Ex)(ou:Outer)(r:FV)(ou':Outer):Prop:=∃(lts:List LTr)(root:LTr),r=.one (.box [.sl 1 (kC lts),.ptr (.o root.id) 0])/\LinkL e lts Q9i/\lts[e.length - 1]?=some root/\NewO ou ou' (lts.flatMap ownO)
abbrev wO (lts:List LTr):AObj:=.cells [.gs 1 (kC lts) (.l 1),.lit (.pointer none)]
set_option maxHeartbeats 2000000 in
theorem Qlk(hΓ:∀g cs,(g,cs)∈Γ->idsL isO cs)(e:List Ex)(he:okE e)(hin:Q0t e)(hne:e≠[])(ou:Outer):AFn Tryz.prog Γ 84 [.one (.sl 5 (e.map cEx))] ou (OpenQ e ou):=by
 have hel:=he.l
 refine AFn.walk 99 tabOk Tryz.func84 rfl (by kernel_rfl) rfl rfl fun hou=>?_
 refine zA ?_
 refine ACode.grow 0 0 81 1 rfl rfl ?_
 refine ACode.loopR hΓ (α:=Nat×List LTr×Outer) (fun c=>[(15,.one (int c.1)),(14,.one (int (e.map cEx).length)),(13,.one (.sl 5 (e.map cEx))),(3,.one (.ptr (.l 0) 0)),(0,.one (.sl 5 (e.map cEx)))])
  (fun c=>⟨2,[(1,.tok 81 1 c.1),(0,wO c.2.1)],c.2.2⟩) (fun m c=>c.1<=e.length/\(LinkL (e.take c.1) c.2.1 Q9i/\NewO ou c.2.2 (c.2.1.flatMap ownO))/\m=e.length - c.1) (a0:=(0,[],ou)) (ρ:=id) ⟨by omega,⟨LinkL.nil,.nil hou⟩,rfl⟩
  (LessR.of rfl zFS (by simp) zLO rfl rfl hou) fun m c hc=>?_
 obtain⟨j,lts,ov⟩:=c
 obtain⟨hjl,⟨hL,hN⟩,rfl⟩:=hc
 dsimp only at hjl hL hN
 have hov:=hN.ok
 refine zA ?_
 refine ACode.cond rfl (fun hb2=>?_) (fun hb2=>?_)
 ·have hlt:j < e.length:=by simpa using hb2
  obtain⟨x,hx⟩:=Q00 hlt
  have hxo:=he.x x (List.mem_of_getElem? hx)
  have hxk:=hxo.k
  have hxa:=hxo.a
  have hxb:=hxo.b
  have hxin:=hin j x hx
  have hgl:lts.length=j:=by rw[hL.len];simp;omega
  have hkcl:(kC lts).length=j:=by rw[Q0q,hgl]
  refine zA ?_
  refine zS (zIA rfl rfl rfl (by omega) (Q04 hx)) ?_
  refine zA ?_
  refine ACode.drawC tabOk 9 [6,7,8] [] (fun vs σ=>match vs with
    |[]=>σ=⟨3,[(2,.cells (cEx x)),(2,.cells (ti57.zero.map .lit)),(1,.tok 81 1 j),(0,wO lts)],ov⟩
    |[a]=>a=.one (.sl 1 (x.binds.map cI))/\σ=⟨4,(3,.dead)::[(2,.cells (cEx x)),(2,.cells (ti57.zero.map .lit)),(1,.tok 81 1 j),(0,wO lts)],ov⟩
    |[a,b]=>a=.one (.sl 1 (x.binds.map cI))/\b=.agg [int x.op,int x.n,.sl 1 (x.binds.map cI),.lit (.slice none 0 0),.lit (.slice none 0 0)]/\σ=⟨4,(3,.dead)::[(2,.cells (cEx x)),(2,.cells (ti57.zero.map .lit)),(1,.tok 81 1 j),(0,wO lts)],ov⟩
    |[a,b,c]=>a=.one (.sl 1 (x.binds.map cI))/\b=.agg [int x.op,int x.n,.sl 1 (x.binds.map cI),.lit (.slice none 0 0),.lit (.slice none 0 0)]/\c=.one (.ptr (.l 4) 0)/\σ=⟨5,(4,.cells [int x.op,int x.n,.sl 1 (x.binds.map cI),.lit (.slice none 0 0),.lit (.slice none 0 0)])::(3,.dead)::[(2,.cells (cEx x)),(2,.cells (ti57.zero.map .lit)),(1,.tok 81 1 j),(0,wO lts)],ov⟩
    |_=>False) follows (by kernel_rfl) rfl rfl (by decide) (by kernel_rfl) (by kernel_rfl) rfl rfl ?_ (fun _ _ _=>.nil) (by decide) ?_ ?_
  ·rintro vs σ hG
   match vs,hG with
   |[],hG=>subst hG;rfl
   |[a],hG=>obtain⟨_,rfl⟩:=hG;rfl
   |[a,b],hG=>obtain⟨_,_,rfl⟩:=hG;rfl
   |[a,b,c],hG=>obtain⟨_,_,_,rfl⟩:=hG;rfl
  ·rintro vs σ hG i o hp1 hp2
   match vs,hG with
   |[],hG=>
    subst hG
    cases hp1
    cases hp2
    refine⟨rfl,rfl,.inr ⟨rfl,?_⟩⟩
    intro F w C tmps hI hF next Q hk
    refine Q0w.appCopyS (news:=x.binds.map cI) tabOk rfl rfl rfl rfl rfl rfl rfl (by simp;show _ * 8<=_;omega) (by simp;omega) F w C tmps hI hF next Q fun u w' C' v σ' hq=>hk u w' C' v σ' ?_
    obtain⟨rfl,rfl⟩:=hq
    exact⟨rfl,rfl⟩
   |[a],hG=>
    obtain⟨rfl,rfl⟩:=hG
    cases hp1
    cases hp2
    exact⟨rfl,rfl,.inl ⟨_,_,HStep.auto tabOk rfl,rfl,rfl,rfl⟩⟩
   |[a,b],hG=>
    obtain⟨rfl,rfl,rfl⟩:=hG
    cases hp1
    cases hp2
    exact⟨rfl,rfl,.inl ⟨_,_,HStep.auto tabOk rfl,rfl,rfl,rfl,rfl⟩⟩
   |[a,b,c],hG=>cases hp1
  rintro vs σ hlen hG
  match vs,hlen,hG with
  |[a,b,c],_,hG=>
  obtain⟨rfl,rfl,rfl,rfl⟩:=hG
  refine zA ?_
  refine ACode.grow 4 3 81 1 rfl rfl ?_
  refine ACode.loopR hΓ (α:=Nat) (fun i=>[(31,.one (int i)),(30,.one (int (x.kids.map cI).length)),(29,.one (.sl 1 (x.kids.map cI))),(6,.one (.ptr (.l 3) 0)),(5,.one (.ptr (.l 2) 0)),(3,.one (.ptr (.l 0) 0)),(15,.one (int j)),(14,.one (int (e.map cEx).length)),(13,.one (.sl 5 (e.map cEx))),(0,.one (.sl 5 (e.map cEx)))])
   (fun i=>⟨5,[(4,.tok 81 1 i),(3,.cells [int x.op,int x.n,.sl 1 (x.binds.map cI),.gs 1 (kC (kidsL lts (x.kids.take i))) (.l 4),.lit (.slice none 0 0)]),(2,.cells (cEx x)),(1,.tok 81 1 j),(0,wO lts)],ov⟩)
   (fun m i=>i<=x.kids.length/\m=x.kids.length - i) (a0:=0) (ρ:=fun k=>if k=3 then 4 else if k=4 then 5 else k) ⟨by omega,rfl⟩ (LessR.of rfl zFS (by simp) ?_ rfl rfl hov) fun m i hi=>?_
  ·repeat' first|exact LoSub.nil|refine zlc ?_|refine zld ?_ ?_|rfl
   all_goals (simp[AObj.ren,renL,AC.ren,kidsL];exact⟨rfl,rfl⟩)
  obtain⟨hil,rfl⟩:=hi
  refine zA ?_
  refine ACode.cond rfl (fun hb3=>?_) (fun hb3=>?_)
  ·have hlt2:i < x.kids.length:=by simpa using hb3
   obtain⟨k,hk⟩:=Q00 hlt2
   have hkb:=hxin k (List.mem_of_getElem? hk)
   obtain⟨k',rfl⟩:∃k':Nat,k=k':=⟨k.toNat,by omega⟩
   obtain⟨tk,htk⟩:=Q00 (l:=lts) (i:=k') (by omega)
   have htd:(lts).getD (k':Int).toNat default=tk:=by rw[Int.toNat_natCast,List.getD_eq_getElem?_getD,htk];rfl
   have hks:=Qbk (ts:=lts) hk
   rw[htd]at hks
   have hkl:(kC (kidsL lts (x.kids.take i))).length=i:=by simp[kC,kidsL];omega
   refine zA ?_
   refine zS (zIA rfl rfl rfl (by omega) (Q04 hk)) ?_
   refine zA ?_
   refine ACode.drawXH (va:=.one (.gs 1 (kC (kidsL lts (x.kids.take i))++[[AC.ptr (.o tk.id) 0]]) (.l 5))) (σ1:=((St.mk 5 [(4,.tok 81 1 i),(3,.cells [int x.op,int x.n,.sl 1 (x.binds.map cI),.gs 1 (kC (kidsL lts (x.kids.take i))) (.l 4),.lit (.slice none 0 0)]),(2,.cells (cEx x)),(1,.tok 81 1 j),(0,wO lts)] ov).set (.l 4) .dead).push (.tok 81 1 (kC (kidsL lts (x.kids.take i))++[[AC.ptr (.o tk.id) 0]]).length))
    tabOk 14 13 [(10,.one (.box [.ptr (.o tk.id) 0]))] follows (by kernel_rfl) rfl rfl rfl rfl rfl rfl rfl ?_ ?_ ?_ ?_
   ·refine HStep.plain rfl (AStep.append (s:=1) (es:=kC (kidsL lts (x.kids.take i))) (news:=[[AC.ptr (.o tk.id) 0]]) (ti:=ti103) (σ:=⟨5,[(4,.tok 81 1 i),(3,.cells [int x.op,int x.n,.sl 1 (x.binds.map cI),.gs 1 (kC (kidsL lts (x.kids.take i))) (.l 4),.lit (.slice none 0 0)]),(2,.cells (cEx x)),(1,.tok 81 1 j),(0,wO lts)],ov⟩) tabOk rfl rfl rfl rfl rfl rfl (Base.gs' _ 81 1 (kC (kidsL lts (x.kids.take i))) (.l 4) rfl hkl.symm) (.sl _ _) rfl ?_ ?_)
    ·rw[hkl];show (i+1) * 8<=_;omega
    ·rw[hkl];show i+1<=_;omega
   ·exact .step rfl (zHP (AStep.indexAddr tabOk rfl rfl rfl rfl rfl rfl (.inr ⟨_,rfl⟩) rfl (by omega) (Q2n htk))) .nil
   ·exact .step rfl (zHP (AStep.indexAddr tabOk rfl rfl rfl rfl rfl rfl (.inr ⟨_,rfl⟩) rfl (by omega) (Q2n htk))) .nil
   refine zM ?_
   refine cInv ⟨x.kids.length - (i+1),i+1,fun k=>if k=4 then 5 else k,by omega,⟨by omega,rfl⟩,LessR.of rfl zFS (by simp) ?_ rfl rfl hov⟩
   repeat' first|exact LoSub.nil|refine zlc ?_|refine zld ?_ ?_|rfl
   ·simp only[AObj.ren,List.length_append,hkl];rfl
   ·rw[hks,Qcv];simp only[AObj.ren,renL,AC.ren];rw[←Qcv,Qe7];simp;rfl
  have hlt2:i=x.kids.length:=by simp at hb3;omega
  subst hlt2
  rw[List.take_length]
  refine zA ?_
  refine ACode.grow 3 4 46 2 rfl rfl ?_
  refine ACode.loopR hΓ (α:=Nat×List LAlt) (fun c=>[(55,.one (int c.1)),(54,.one (int (x.alts.map cAlt).length)),(53,.one (.sl 2 (x.alts.map cAlt))),(6,.one (.ptr (.l 3) 0)),(3,.one (.ptr (.l 0) 0)),(15,.one (int j)),(14,.one (int (e.map cEx).length)),(13,.one (.sl 5 (e.map cEx))),(0,.one (.sl 5 (e.map cEx)))])
   (fun c=>⟨6,[(5,.tok 46 2 c.1),(3,.cells [int x.op,int x.n,.sl 1 (x.binds.map cI),.gs 1 (kC (kidsL lts x.kids)) (.l 4),.gs 2 (c.2.map lAlt) (.l 5)]),(1,.tok 81 1 j),(0,wO lts)],ov⟩)
   (fun m c=>c.1<=x.alts.length/\(c.2.map LAlt.er=x.alts.take c.1/\∀y∈c.2,y.nb=none)/\m=x.alts.length - c.1) (a0:=(0,[])) (ρ:=id) ⟨by omega,⟨rfl,by simp⟩,rfl⟩ (LessR.of rfl zFS (by simp) ?_ rfl rfl hov) fun m c hc=>?_
  ·repeat' first|exact LoSub.nil|refine zlc ?_|refine zld ?_ ?_|rfl
   all_goals (simp[AObj.ren,renL,AC.ren];exact⟨rfl,rfl⟩)
  obtain⟨i,la⟩:=c
  obtain⟨hil,⟨hla,hlo⟩,rfl⟩:=hc
  dsimp only at hil hla hlo
  have hll:la.length=i:=by have:=congrArg List.length hla;simp at this;omega
  have hal:(la.map lAlt).length=i:=by simp[hll]
  refine zA ?_
  refine ACode.cond rfl (fun hb3=>?_) (fun hb3=>?_)
  ·have hlt2:i < x.alts.length:=by simpa using hb3
   obtain⟨a,ha⟩:=Q00 hlt2
   have hab:=hxo.ab a (List.mem_of_getElem? ha)
   refine zA ?_
   refine zS (zIA rfl rfl rfl (by omega) (Q04 ha)) ?_
   refine zA ?_
   refine ACode.drawC tabOk 13 [9,10,11,12] [] (fun vs σ=>match vs with
     |[]=>σ=⟨7,[(6,.cells (cAlt a)),(6,.cells (ti46.zero.map .lit)),(5,.tok 46 2 i),(3,.cells [int x.op,int x.n,.sl 1 (x.binds.map cI),.gs 1 (kC (kidsL lts x.kids)) (.l 4),.gs 2 (la.map lAlt) (.l 5)]),(1,.tok 81 1 j),(0,wO lts)],ov⟩
     |[q1]=>q1=.one (bC none a.binds)/\σ=⟨8,(7,.dead)::[(6,.cells (cAlt a)),(6,.cells (ti46.zero.map .lit)),(5,.tok 46 2 i),(3,.cells [int x.op,int x.n,.sl 1 (x.binds.map cI),.gs 1 (kC (kidsL lts x.kids)) (.l 4),.gs 2 (la.map lAlt) (.l 5)]),(1,.tok 81 1 j),(0,wO lts)],ov⟩
     |[q1,q2]=>q1=.one (bC none a.binds)/\q2=.agg [int a.tag,bC none a.binds]/\σ=⟨8,(7,.dead)::[(6,.cells (cAlt a)),(6,.cells (ti46.zero.map .lit)),(5,.tok 46 2 i),(3,.cells [int x.op,int x.n,.sl 1 (x.binds.map cI),.gs 1 (kC (kidsL lts x.kids)) (.l 4),.gs 2 (la.map lAlt) (.l 5)]),(1,.tok 81 1 j),(0,wO lts)],ov⟩
     |[q1,q2,q3]=>q1=.one (bC none a.binds)/\q2=.agg [int a.tag,bC none a.binds]/\q3=.one (.sl 2 [[int a.tag,bC none a.binds]])/\σ=⟨8,(7,.dead)::[(6,.cells (cAlt a)),(6,.cells (ti46.zero.map .lit)),(5,.tok 46 2 i),(3,.cells [int x.op,int x.n,.sl 1 (x.binds.map cI),.gs 1 (kC (kidsL lts x.kids)) (.l 4),.gs 2 (la.map lAlt) (.l 5)]),(1,.tok 81 1 j),(0,wO lts)],ov⟩
     |[q1,q2,q3,q4]=>q1=.one (bC none a.binds)/\q2=.agg [int a.tag,bC none a.binds]/\q3=.one (.sl 2 [[int a.tag,bC none a.binds]])/\q4=.one (.gs 2 (la.map lAlt++[[int a.tag,bC none a.binds]]) (.l 8))/\σ=⟨9,[(8,.tok 46 2 (la.map lAlt++[[int a.tag,bC none a.binds]]).length),(5,.dead),(7,.dead),(6,.cells (cAlt a)),(6,.cells (ti46.zero.map .lit)),(5,.tok 46 2 i),(3,.cells [int x.op,int x.n,.sl 1 (x.binds.map cI),.gs 1 (kC (kidsL lts x.kids)) (.l 4),.gs 2 (la.map lAlt) (.l 5)]),(1,.tok 81 1 j),(0,wO lts)],ov⟩
     |_=>False) follows (by kernel_rfl) rfl rfl (by decide) (by kernel_rfl) (by kernel_rfl) rfl rfl ?_ (fun _ _ _=>.nil) (by decide) ?_ ?_
   ·rintro vs σ hG
    match vs,hG with
    |[],hG=>subst hG;rfl
    |[_],hG=>obtain⟨_,rfl⟩:=hG;rfl
    |[_,_],hG=>obtain⟨_,_,rfl⟩:=hG;rfl
    |[_,_,_],hG=>obtain⟨_,_,_,rfl⟩:=hG;rfl
    |[_,_,_,_],hG=>obtain⟨_,_,_,_,rfl⟩:=hG;rfl
   ·rintro vs σ hG q o hp1 hp2
    match vs,hG with
    |[],hG=>
     subst hG
     cases hp1
     cases hp2
     refine⟨rfl,rfl,.inr ⟨rfl,?_⟩⟩
     intro F w C tmps hI hF next Q hk
     refine Q0w.appCopyS (news:=a.binds.map cI) tabOk rfl rfl rfl rfl rfl rfl rfl (by simp;show _ * 8<=_;omega) (by simp;omega) F w C tmps hI hF next Q fun u w' C' v σ' hq=>hk u w' C' v σ' ?_
     obtain⟨rfl,rfl⟩:=hq
     exact⟨rfl,rfl⟩
    |[_],hG=>
     obtain⟨rfl,rfl⟩:=hG
     cases hp1
     cases hp2
     exact⟨rfl,rfl,.inl ⟨_,_,HStep.auto tabOk rfl,rfl,rfl,rfl⟩⟩
    |[_,_],hG=>
     obtain⟨rfl,rfl,rfl⟩:=hG
     cases hp1
     cases hp2
     exact⟨rfl,rfl,.inl ⟨_,_,HStep.auto tabOk rfl,rfl,rfl,rfl,rfl⟩⟩
    |[_,_,_],hG=>
     obtain⟨rfl,rfl,rfl,rfl⟩:=hG
     cases hp1
     cases hp2
     refine⟨rfl,rfl,.inl ⟨_,_,HStep.plain rfl (AStep.append (s:=2) (es:=la.map lAlt) (news:=[[int a.tag,bC none a.binds]]) (ti:=ti47) tabOk rfl rfl rfl rfl rfl rfl (Base.gs' _ 46 2 (la.map lAlt) (.l 5) rfl hal.symm) (.sl _ _) rfl ?_ ?_),rfl,rfl,rfl,rfl,rfl⟩⟩
     ·rw[hal];show (i+1) * 32<=_;omega
     ·rw[hal];show i+1<=_;omega
    |[_,_,_,_],hG=>cases hp1
   rintro vs σ hlen hG
   match vs,hlen,hG with
   |[_,_,_,_],_,hG=>
   obtain⟨rfl,rfl,rfl,rfl,rfl⟩:=hG
   refine zM ?_
   obtain⟨la',hla'⟩:∃la',la'=la++[⟨a.tag,none,a.binds⟩]:=⟨_,rfl⟩
   have hlm:la.map lAlt++[[int a.tag,bC none a.binds]]=la'.map lAlt:=by rw[hla',List.map_append];rfl
   refine cInv ⟨x.alts.length - (i+1),(i+1,la'),fun k=>if k=5 then 8 else k,by omega,⟨by omega,⟨by rw[hla',List.map_append,hla,Q0n ha];rfl,?_⟩,rfl⟩,LessR.of rfl zFS (by simp) ?_ rfl rfl hov⟩
   ·intro y hy
    rw[hla']at hy
    rcases List.mem_append.1 hy with hy|hy
    ·exact hlo y hy
    ·simp at hy;subst hy;rfl
   ·repeat' first|exact LoSub.nil|refine zlc ?_|refine zld ?_ ?_|rfl
    ·simp only[AObj.ren,List.length_append,hal];rfl
    ·simp only[hlm,AObj.ren,renL,AC.ren,Qe7,Qe6];simp;exact⟨rfl,rfl⟩
  have hlt2:i=x.alts.length:=by simp at hb3;omega
  subst hlt2
  rw[List.take_length]at hla
  repeat ((fail_if_success ((with_reducible refine oj ?_);refine AOps.atDst 75 rfl ?_));first|refine zO ?_)
  refine AOps.wkObj (.l 3) rfl (cs':=[int x.op,int x.n,.sl 1 (x.binds.map cI),.sl 1 (kC (kidsL lts x.kids)),.sl 2 (la.map lAlt)]) (fun w C xs h=>?_) ?_
  ·exact (show WkL _ _ from .cons (.refl _) (.cons (.refl _) (.cons (.refl _) (.cons (.gsE rfl) (.cons (.gsE rfl) .nil))))) w C xs h
  have hθ:∀(k:Nat) (i:Abs.Id),isO i->toOs [3] k i=i:=fun k i hi=>by cases i with|l q=>exact hi.elim|o q=>rfl
  have hnid:(AObj.cells [int x.op,int x.n,.sl 1 (x.binds.map cI),.sl 1 (kC (kidsL lts x.kids)),.sl 2 (la.map lAlt)]).ids isO:=Q3v x.op x.n none x.binds (kidsL lts x.kids) la
  refine AOps.cedes [3] rfl (by decide) hov fun k hk=>⟨[(6,.one (.ptr (.o k) 0)),(3,.one (.ptr (.l 0) 0)),(15,.one (int j)),(14,.one (int (e.map cEx).length)),(13,.one (.sl 5 (e.map cEx))),(0,.one (.sl 5 (e.map cEx)))],
   [(1,.tok 81 1 j),(0,wO lts)],[.cells [int x.op,int x.n,.sl 1 (x.binds.map cI),.sl 1 (kC (kidsL lts x.kids)),.sl 2 (la.map lAlt)]],?_,?_,?_,?_⟩
  ·exact .cons rfl rfl (.cons rfl rfl (.cons rfl rfl (.cons rfl rfl (.cons rfl (FV.sub_f (hθ k) _ (by simp)) (.cons rfl (FV.sub_f (hθ k) _ (by simp)) .nil)))))
  ·refine .cons rfl rfl rfl (.cons rfl rfl ?_ .nil)
   simp only[wO,AObj.sub,subL,AC.sub]
   rw[Q95 (hθ k) _ (Qd0 _)]
   rfl
  ·exact .cons rfl (AObj.sub_f (hθ k) _ hnid) .nil
  have hN1:=NewO.add hk hov hnid
  have hN2:=hN.trans hN1
  obtain⟨t,ht⟩:∃t:LTr,t=.mk k x.op x.n none x.binds (kidsL lts x.kids) la:=⟨_,rfl⟩
  have hto:lts.flatMap ownO++[(k,.cells [int x.op,int x.n,.sl 1 (x.binds.map cI),.sl 1 (kC (kidsL lts x.kids)),.sl 2 (la.map lAlt)])]=(lts++[t]).flatMap ownO:=by
   rw[List.flatMap_append,ht]
   simp[ownO,bO,bC,Q6s hlo]
  rw[hto]at hN2
  have hL2:=hL.snoc (Qbl (by rw[List.take_append_drop];exact hin)) (x:=x) (fun q hq=>by have:=hxin q hq;simp;omega) (id:=k) (nb:=none) hla rfl hlo
  rw[←Q0n hx,show LTr.mk k x.op x.n none x.binds (x.kids.map fun q=>lts.getD q.toNat default) la=t by rw[ht];rfl]at hL2
  refine zA ?_
  refine AOps.app tabOk rfl rfl rfl rfl rfl rfl rfl rfl rfl (Base.gs' _ 81 1 _ _ rfl hkcl.symm) (.sl _ _) rfl ?_ ?_ ?_
  ·rw[hkcl];show (j+1) * 8<=_;omega
  ·rw[hkcl];show j+1<=_;omega
  refine zM ?_
  have hsk:kC lts++[[AC.ptr (.o k) 0]]=kC (lts++[t]):=by rw[Qi3,ht];rfl
  refine cInv ⟨e.length - (j+1),(j+1,lts++[t],_),fun q=>if q=1 then 6 else q,by omega,⟨by omega,⟨hL2,hN2⟩,rfl⟩,LessR.of rfl zFS (by simp) ?_ rfl rfl hN2.ok⟩
  repeat' first|exact LoSub.nil|refine zlc ?_|refine zld ?_ ?_|rfl
  ·simp only[AObj.ren,List.length_append,hkcl];rfl
  ·show _=AObj.ren _ (.cells [.gs 1 (kC (lts++[t])) (.l 1),.lit (.pointer none)])
   simp only[AObj.ren,renL,AC.ren,Qe7]
   rw[hsk];rfl
 ·have hlt:j=e.length:=by simp at hb2;omega
  subst hlt
  rw[List.take_length]at hL
  obtain⟨N,hNe⟩:∃N,e.length=N+1:=⟨e.length - 1,by have:=List.length_pos_iff.2 hne;omega⟩
  obtain⟨t,ht⟩:=Q00 (l:=lts) (i:=N) (by rw[hL.len];omega)
  have hnt:e.length - 1=N:=by omega
  refine zM ?_
  refine AOps.wk 93 rfl (y:=.one (int (N:Nat))) (.ofEq (by congr 3;simp;omega)) ?_
  refine zS (AStep.indexAddr tabOk rfl rfl rfl rfl rfl rfl (.inr ⟨_,rfl⟩) rfl (by omega) (Q2n ht)) ?_
  repeat ((fail_if_success ((with_reducible refine oj ?_);refine AOps.atDst 98 rfl ?_));first|refine zO ?_)
  refine AOps.wkObj (.l 0) rfl (cs':=[.sl 1 (kC lts),.ptr (.o t.id) 0]) (fun w C xs h=>?_) ?_
  ·exact (show WkL _ _ from .cons (.gsE rfl) (.cons (.refl _) .nil)) w C xs h
  refine AOps.freeze1 (.l 0) 3 rfl rfl ?_
  refine zA ?_
  exact AFn.fin' rfl (WkF.ofEq rfl) (by simp) hov ⟨lts,t,rfl,hL,by rw[hnt];exact ht,hN⟩
end Go.Proofs.YtpaonemmbhbgoaaGreatDoor
namespace Go.CoreX
theorem Qj0{e:List Ex}{x:Ex}(h:Q0l false e x=0)(h1:x.op=1):-1073741824<=x.n/\x.n<=1073741823:=by
 unfold Q0l at h
 split at h
 ·cases h
 ·unfold Q1h at h
  split at h
  ·cases h
  ·split at h
   ·rename_i hr;exact absurd h hr
   ·rename_i hr
    have hr':ranges x=0:=by simpa using hr
    unfold ranges at hr'
    repeat' split at hr'
    all_goals first
     |(cases hr';done)
     |skip
    all_goals
     rename_i hf _
     simp[between,lowN,highN,h1]at *
     try omega
theorem Qah{e:List Ex}(h:check e=0):allT (fun l=>l.op=1->-1073741824<=l.n/\l.n<=1073741823) (grow e):=by
 obtain⟨_,p2,_,_⟩:=Q4p h
 exact Qam (Q0f h) fun x hx h1=>Qj0 (p2 x hx) h1
theorem Q7l{e:List Ex}(hk:Q0t e)(hp:∀x∈e,pOk (labE e x))(p:Nat){X:Tr}(hX:allT pOk X):∀(n j:Nat),j < n->j < e.length->allT pOk ((Q32 e p X).getD j default)
 |0,j,hj,_=>by omega
 |n+1,j,hj,hl=>by
  obtain⟨x,hx⟩:∃x,e[j]?=some x:=⟨e[j],List.getElem?_eq_getElem hl⟩
  rw[Qa4 hk p X hx]
  split
  ·exact hX
  ·have h:=hp x (List.mem_of_getElem? hx)
   refine⟨⟨h.b,?_,h.a,h.ab,h.s⟩,Q4b.2 fun t ht=>?_⟩
   ·have:=h.k
    simp only[labE,List.length_map]at this ⊢
    exact this
   ·obtain⟨q,hq,rfl⟩:=List.mem_map.1 ht
    have:=hk j x hx q hq
    exact Q7l hk hp p hX n q.toNat (by omega) (by omega)
theorem Q8h{e:List Ex}(h:check e=0){k:Nat}(hk:k < e.length):cntN (Q0b e k)<=4096:=by
 have t1:=Q0f h
 obtain⟨p1,_⟩:=Q4p h
 obtain⟨q1,_,_⟩:=(Q29 e).1 p1
 have h1:=len_sub t1 hk
 have h2:=Q27 (Q0b e k) []
 simp only[List.length_nil]at h2
 omega
end Go.CoreX
namespace Go.Proofs.YtpaonemmbhbgoaaGreatDoor
open Go Go.Abs Go.CoreX
theorem LinkL.plain{e:List Ex}{lts:List LTr}(h:LinkL e lts Q9i)(hk:Q0t e):∀(n i:Nat)(t:LTr),i < n->lts[i]?=some t->Q24 t
 |0,i,t,hi,_=>by omega
 |n+1,i,t,hi,ht=>by
  have hil:i < e.length:=by rw[←h.len];exact (List.getElem?_eq_some_iff.1 ht).1
  obtain⟨x,hx⟩:=Q00 hil
  obtain⟨id,nb,a,h1,h2,h3,h4⟩:=h.at_ i x hx
  rw[ht]at h1
  cases h1
  refine⟨h3,h4,Q65.2 fun s hs=>?_⟩
  obtain⟨q,hq,rfl⟩:=List.mem_map.1 hs
  have hq':=hk i x hx q hq
  obtain⟨t',ht'⟩:=Q00 (l:=lts) (i:=q.toNat) (by rw[h.len];omega)
  rw[h.getD ht']
  exact h.plain hk n q.toNat t' (by omega) ht'
theorem Q5w(k:Nat){s:LTr}:∀{l:List LTr},s∈l->(keys (objs s)).count k<=(keys (objss l)).count k
 |[],h=>by cases h
 |t::l,h=>by
  simp only[objss,Q0v,List.count_append]
  rcases List.mem_cons.1 h with rfl|h
  ·omega
  ·have:=Q5w k h;omega
theorem Qkg(k:Nat){t0 t:LTr}(h:SubL t0 t):(keys (objs t0)).count k<=(keys (objs t)).count k:=by
 induction h with
 |here=>exact Nat.le_refl _
 |@kid t s hs _ ih=>
  have h1:=Qbf k t
  have h2:=Q5w k hs
  omega
theorem Qkf{t0 t:LTr}(h:SubL t0 t)(hn:(keys (objs t)).Nodup):(keys (objs t0)).Nodup:=by
 rw[List.nodup_iff_count]at hn ⊢
 exact fun k=>Nat.le_trans (Qkg k h) (hn k)
theorem Qlf:∀t:LTr,t.id∈keys (ownO t)
 |.mk i o n nb b k a=>by simp[ownO,keys,LTr.id]
theorem Qmd:∀{lts:List LTr},(keys (lts.flatMap ownO)).Nodup->∀(i j:Nat)(ti tj:LTr),lts[i]?=some ti->lts[j]?=some tj->ti.id=tj.id->i=j
 |[],_,i,j,ti,tj,h,_,_=>by simp at h
 |t::l,hn,i,j,ti,tj,hi,hj,he=>by
  rw[List.flatMap_cons,Q0v,List.nodup_append]at hn
  have hmem:∀(q:Nat) (s:LTr),l[q]?=some s->s.id∈keys (l.flatMap ownO):=fun q s hs=>by
   obtain⟨o,ho⟩:=Q1g (Qlf s)
   exact Q0s (List.mem_flatMap.2 ⟨s,List.mem_of_getElem? hs,ho⟩)
  cases i with
  |zero=>
   simp at hi;subst hi
   cases j with
   |zero=>rfl
   |succ j=>exact absurd he (hn.2.2 _ (Qlf _) _ (hmem j tj (by simpa using hj)))
  |succ i=>
   cases j with
   |zero=>
    simp at hj;subst hj
    exact absurd he.symm (hn.2.2 _ (Qlf _) _ (hmem i ti (by simpa using hi)))
   |succ j=>rw[Qmd hn.2.1 i j ti tj (by simpa using hi) (by simpa using hj) he]
variable {Γ:List (Nat×List AC)}
structure NameOk (e:List Ex)(rule n:Int)(at':Nat):Prop where
 n:rule=10->∀(ou:Outer) (lts:List LTr) (root t:LTr),LinkL e lts Q9i->lts[e.length - 1]?=some root->lts[at']?=some t->Owns ou (lts.flatMap ownO)->(keys (objs t)).Nodup->AFn Tryz.prog Γc 109 [.one (.box [.sl 1 (kC lts),.ptr (.o root.id) 0]),.one (.ptr (.o t.id) 0),.one (int n)] ou (ResW ou t (Q8d (grow e) (erT t) n))
 u:rule=12->∀(ou:Outer) (lts:List LTr) (root t:LTr),LinkL e lts Q9i->lts[e.length - 1]?=some root->lts[at']?=some t->Owns ou (lts.flatMap ownO)->(erT t).op=0->AFn Tryz.prog Γc 110 [.one (.box [.sl 1 (kC lts),.ptr (.o root.id) 0]),.one (.ptr (.o t.id) 0)] ou (ResW ou t (Q4z (growL e) (grow e) (erT t)))
theorem NameOk.no{e:List Ex}{rule n:Int}{at':Nat}(h1:rule≠10)(h2:rule≠12):NameOk e rule n at':=⟨fun h=>absurd h h1,fun h=>absurd h h2⟩
set_option maxHeartbeats 1000000 in
theorem Qdl(e:List Ex)(he:okB e)(rule at' n:Int)(hno:check e=0->0<=at'->at' < (e.length:Int)->NameOk e rule n at'.toNat):APure Tryz.prog Γc 56 [.one (.sl 5 (e.map cEx)),.agg [int rule,int at',int n]] (.tup [.one (.sl 5 ((Q0p e rule at' n).1.map cEx)),.one (int (Q0p e rule at' n).2)]):=by
 have c1:=Q2r e he
 have hel:=he.eo.l
 intro ou
 refine AFn.forget ?_
 refine AFn.walk 64 tabOk Tryz.func56 rfl (by kernel_rfl) rfl rfl fun hou=>?_
 refine zA ?_
 refine zca hΓc c1 hou ?_
 refine zA ?_
 refine ACode.cond rfl (fun hb=>?_) (fun hb=>?_)
 ·have h:check e≠0:=by simpa using hb
  refine zA ?_
  refine AFn.fin' rfl (.trans (WkF.tup (.cons (.one (.nilS 5)) (.cons (.refl _) .nil))) (.ofEq ?_)) (by simp) hou ⟨ou,fun _ _ h=>h,rfl,rfl⟩
  unfold Q0p
  rw[if_pos h];rfl
 have h:check e=0:=by simpa using hb
 have t1:=Q0f h
 refine zA ?_
 refine AOps.splitS rfl rfl rfl rfl (fun hb1=>?_) (fun hb1=>?_)
 ·have h1:rule < 1:=by simpa using hb1
  refine zA ?_
  refine AFn.fin' rfl (.trans (WkF.tup (.cons (.one (.nilS 5)) (.cons (.refl _) .nil))) (.ofEq ?_)) (by simp) hou ⟨ou,fun _ _ h=>h,rfl,rfl⟩
  unfold Q0p
  rw[if_neg (by simpa using h),if_pos (.inl h1)];rfl
 have h1:¬rule < 1:=by simpa using hb1
 refine zA ?_
 refine ACode.cond rfl (fun hb2=>?_) (fun hb2=>?_)
 ·have h2:12 < rule:=by simpa using hb2
  refine zA ?_
  refine AFn.fin' rfl (.trans (WkF.tup (.cons (.one (.nilS 5)) (.cons (.refl _) .nil))) (.ofEq ?_)) (by simp) hou ⟨ou,fun _ _ h=>h,rfl,rfl⟩
  unfold Q0p
  rw[if_neg (by simpa using h),if_pos (.inr h2)];rfl
 have h2:¬12 < rule:=by simpa using hb2
 refine zA ?_
 refine AOps.splitS rfl rfl rfl rfl (fun hb3=>?_) (fun hb3=>?_)
 ·have h3:at' < 0:=by simpa using hb3
  refine zA ?_
  refine AFn.fin' rfl (.trans (WkF.tup (.cons (.one (.nilS 5)) (.cons (.refl _) .nil))) (.ofEq ?_)) (by simp) hou ⟨ou,fun _ _ h=>h,rfl,rfl⟩
  unfold Q0p
  rw[if_neg (by simpa using h),if_neg (by omega),if_pos (.inl h3)];rfl
 have h3:¬at' < 0:=by simpa using hb3
 refine zA ?_
 refine ACode.cond rfl (fun hb4=>?_) (fun hb4=>?_)
 ·have h4:(e.length:Int)<=at':=by simpa using hb4
  refine zA ?_
  refine AFn.fin' rfl (.trans (WkF.tup (.cons (.one (.nilS 5)) (.cons (.refl _) .nil))) (.ofEq ?_)) (by simp) hou ⟨ou,fun _ _ h=>h,rfl,rfl⟩
  unfold Q0p
  rw[if_neg (by simpa using h),if_neg (by omega),if_pos (.inr h4)];rfl
 have h4:¬(e.length:Int)<=at':=by simpa using hb4
 have hap:Q0p e rule at' n=match resT (growL e) (grow e) rule n (Q0b e at'.toNat) with
  |none=>([],12)
  |some x=>if check (listT [] (growR e at'.toNat x))≠0 then ([],2)else (listT [] (growR e at'.toNat x),0):=by
  conv=>lhs;unfold Q0p
  rw[if_neg (by simpa using h),if_neg (by omega),if_neg (by omega)]
  cases resT (growL e) (grow e) rule n (Q0b e at'.toNat) <;> rfl
 have hno:=hno h (by omega) (by omega)
 obtain⟨p,rfl⟩:∃p:Nat,at'=p:=⟨at'.toNat,by omega⟩
 rw[Int.toNat_natCast]at hap hno
 have hp:p < e.length:=by omega
 obtain⟨x,hx⟩:=Q00 hp
 refine zA ?_
 refine AOps.call1 hΓc rfl rfl rfl rfl rfl rfl rfl (by simp) hou (Qlk hΓc e he.eo t1.k t1.ne ou) fun r ov hq hids hov=>?_
 obtain⟨lts,root,rfl,hL,hr,hN⟩:=hq
 obtain⟨id,nb,a,ht0,ha,hnb,hab⟩:=hL.at_ p x hx
 obtain rfl:nb=none:=hnb
 obtain⟨ks,hks⟩:∃ks,ks=x.kids.map fun q=>lts.getD q.toNat default:=⟨_,rfl⟩
 rw[←hks]at ht0
 obtain⟨t,hte⟩:∃t,t=LTr.mk id x.op x.n none x.binds ks a:=⟨_,rfl⟩
 have ht:lts[p]?=some t:=by rw[hte];exact ht0
 have hpl:=hL.plain t1.k _ p t (Nat.lt_succ_self _) ht
 have her:erT t=Q0b e p:=hL.er t1.k _ p t (Nat.lt_succ_self _) ht
 have hrer:erT root=grow e:=by
  have:=hL.er t1.k _ _ root (Nat.lt_succ_self _) hr
  rw[this];rfl
 have hok:okT (erT t):=by rw[her];exact Q47 he t1 hp
 have hsh:allT shpL (erT t):=by rw[her];exact Q2b t1 (Q5i h) hp
 have hwd:allT (fun l=>l.op=1->-1073741824<=l.n/\l.n<=1073741823) (erT t):=by rw[her];exact Q2b t1 (Qah h) hp
 have hct:cntN (erT t)<=4096:=by rw[her];exact Q8h h hp
 have hcr:cntN (erT root)<=4096:=by
  rw[hrer];exact Q8h h (k:=e.length - 1) (by have:=List.length_pos_iff.2 t1.ne;omega)
 have hOw:∀(q:Nat) (s:LTr),lts[q]?=some s->Owns ov (objs s):=fun q s hs o ho=>hN.own o (hL.own t1.k _ q s (Nat.lt_succ_self _) hs o ho)
 have hrn:(keys (objs root)).Nodup:=hL.nodup t1 hN.nd hr
 have hsub:=hL.sub t1 hr p t ht
 have htn:=Qkf hsub hrn
 have hinj:=Qmd hN.nd
 have hres:=Ql1 (Γ:=Γc) hΓc [.sl 1 (kC lts),.ptr (.o root.id) 0] (by simp) (growL e) (grow e) rule p n id x.op x.n x.binds ks a (by rw[←hte];exact hpl) (by rw[←hte];exact hok) (by rw[←hte];exact hsh) (by rw[←hte];omega)
  (fun s hs h1 => by
   have h2:=Q1x hwd (Q1y (t:=t) (s:=s) (by rw[hte];exact hs))
   cases hse:erT s with
   |mk o' n' b' k' a'=>
    rw[hse]at h2 h1
    exact h2.1 h1)
  ov (by rw[←hte];exact hOw p t ht) (by rw[←hte];exact htn)
  (fun h10=>by rw[←hte];have:=hno.n h10 ov lts root t hL hr ht hN.own htn;rwa [hte]at this ⊢) (fun h12 h0=>by rw[←hte];have:=hno.u h12 ov lts root t hL hr ht hN.own (by rw[hte];exact h0);rwa [hte]at this ⊢)
 rw[←hte,her]at hres
 have hti:t.id=id:=by rw[hte];rfl
 obtain⟨X,hX⟩:∃X,X=resT (growL e) (grow e) rule n (Q0b e p):=⟨_,rfl⟩
 rw[←hX]at hres hap
 refine zA ?_
 refine ACode.drawX tabOk 8 [(6,.one (.box [.ptr (.o id) 0]))] follows (by kernel_rfl) rfl rfl rfl rfl ?_ ?_
 ·exact .step rfl (zHP (zIA rfl rfl rfl (by omega) (by rw[←hti];exact Q2n ht))) .nil
 refine zA ?_
 refine AOps.call1 hΓc rfl rfl rfl rfl rfl rfl rfl (by simp[idsF]) hov hres fun r ow hq hids how=>?_
 cases X with
 |none=>
  obtain⟨rfl,_,hfr⟩:=hq
  refine zA ?_
  refine zS (AStep.eqNil0 Tryz.underlying81 rfl rfl rfl) ?_
  refine zA ?_
  exact AFn.fin' rfl (.trans (WkF.tup (.cons (.one (.nilS 5)) (.cons (.refl _) .nil))) (.ofEq (by rw[hap];rfl))) (by simp) how ⟨ou,fun m o hm=>hfr m o (hN.oldS hm),rfl,rfl⟩
 |some X=>
  obtain⟨u,rfl,heu,huo,htu,_,hfr,huk⟩:=hq
  have hpX:allT pOk X:=Ql2 (nodes:=growL e) (root:=grow e) (t:=Q0b e p) (by rw[←her];exact Q40 _ hok) (fun s hs=>by
   obtain⟨q,hq1,hq2⟩:=List.getElem_of_mem hs
   rw[Q0m]at hq1
   have:Q0b e q=s:=by unfold Q0b;rw[List.getD_eq_getElem?_getD,List.getElem?_eq_getElem (by rw[Q0m];exact hq1),hq2];rfl
   rw[←this];exact Q40 _ (Q47 he t1 hq1)) hX.symm
  have hcX:cntN X<=4 * 4096+4:=res_cnt (nodes:=growL e) (root:=grow e) (t:=Q0b e p) (by rw[←her];exact hsh) (Q8h h hp) (fun s hs=>by
   obtain⟨q,hq1,hq2⟩:=List.getElem_of_mem hs
   rw[Q0m]at hq1
   have:Q0b e q=s:=by unfold Q0b;rw[List.getD_eq_getElem?_getD,List.getElem?_eq_getElem (by rw[Q0m];exact hq1),hq2];rfl
   rw[←this];exact Q8h h hq1) hX.symm
  have htO:=hOw p t ht
  have htg:ow t.id=some (.cells (lC t)):=hfr _ _ (Q09 htO) (Q9a htn)
  have hug:=Q09 huo
  have htut:t.id∉keys (tailO u):=fun hm=>htu (by rw[Q0d];exact List.mem_cons_of_mem _ hm)
  have huo':Owns (setO ow t.id (.cells (lC u))) (objs (Q36 t.id u)):=Q7e (Q8q huo) htut
  have hro:Owns (setO ow t.id (.cells (lC u))) (objs (putL t.id (Q36 t.id u) root)):=fun q hq=>by
   rcases Ql7 hsub hrn (Q2g t.id u) q hq with h5|⟨h5,h6⟩
   ·exact huo' q h5
   ·have hqt:q.1≠t.id:=fun e1=>h6 (e1▸Qbq t)
    rw[Q54 hqt]
    exact hfr _ _ (hOw _ root hr q h5) (fun hm=>h6 (by rw[Q0d];exact List.mem_cons_of_mem _ hm))
  have hrid:(putL t.id (Q36 t.id u) root).id=root.id:=Ql9 (Q2g t.id u) root
  have hrer':erT (putL t.id (Q36 t.id u) root)=growR e p X:=by
   rw[hL.put_er t1.k hinj ht (Q36 t.id u) _ _ root (Nat.lt_succ_self _) hr,Q6f,heu];rfl
  have hcnt:cntN (growR e p X)<=1048576:=by
   have h5:=put_cnt (u:=Q36 t.id u) hsub hrn
   rw[hrer',Q6f,heu]at h5
   omega
  have hpk:allT pOk (growR e p X):=Q7l t1.k (fun y hy=>Qhp he _ (List.mem_map_of_mem (f:=labE e) hy)) p hpX _ _ (Nat.lt_succ_self _) (by have:=List.length_pos_iff.2 t1.ne;omega)
  have how3:OuOk (setO ow t.id (.cells (lC u))):=Qfp how (Qem u)
  have hhap:Q0p e rule p n=if check (listT [] (growR e p X))≠0 then ([],2)else (listT [] (growR e p X),0):=hap
  have hfin:∀m o,ou m=some o->m∉keys (objs (putL t.id (Q36 t.id u) root))/\setO ow t.id (.cells (lC u)) m=some o:=fun m o hm=>by
   have hmN:m∉keys (lts.flatMap ownO):=fun hk=>by have:=hN.new m hk;rw[hm]at this;cases this
   have hmt:m∉keys (objs t):=fun hk=>by
    obtain⟨o',ho'⟩:=Q1g hk
    exact hmN (Q0s (hL.own t1.k _ p t (Nat.lt_succ_self _) ht _ ho'))
   have hw:ow m=some o:=hfr _ _ (hN.oldS hm) (fun hk=>hmt (by rw[Q0d];exact List.mem_cons_of_mem _ hk))
   have hmt2:m≠t.id:=fun e1=>hmt (e1▸Qbq t)
   refine⟨fun hk=>?_,by rw[Q54 hmt2];exact hw⟩
   obtain⟨o',ho'⟩:=Q1g hk
   rcases Ql7 hsub hrn (Q2g t.id u) _ ho' with h5|⟨h5,_⟩
   ·rw[Q0d,Q2g,Q3g]at h5
    rcases List.mem_cons.1 h5 with h5|h5
    ·exact hmt2 (by injection h5)
    ·rcases huk m (by rw[Q0d];exact List.mem_cons_of_mem _ (Q0s h5))with h6|h6
     ·exact hmt (by rw[Q0d];exact List.mem_cons_of_mem _ h6)
     ·rw[hN.oldS hm]at h6;cases h6
   ·exact hmN (Q0s (hL.own t1.k _ _ root (Nat.lt_succ_self _) hr _ h5))
  generalize hR:putL t.id (Q36 t.id u) root=R at hro hrid hrer' hfin
  cases u with
  |mk ku ou' nu nbu bu ksu au=>
  simp only[lC]at hug
  refine zA ?_
  refine zS (AStep.eqNil Tryz.underlying81 rfl rfl rfl) ?_
  refine zA ?_
  refine zS (AStep.loadOwnA tabOk rfl rfl rfl rfl rfl hug) ?_
  refine zA ?_
  rw[hti]at htg how3 hro hfin
  refine AOps.storeOwnA tabOk rfl rfl rfl rfl rfl (by simp[Qlx]) rfl rfl htg ?_
  repeat ((fail_if_success ((with_reducible refine oj ?_);refine AOps.atDst 59 rfl ?_));first|refine zO ?_)
  rw[←hrid]
  refine AOps.freezeU (t:=R) 58 hro rfl ?_
  rw[hrer']
  have hokd:OuOk (deadL (setO ow id (.cells (lC (.mk ku ou' nu nbu bu ksu au)))) (keys (objs R))):=fun m o hm=>by
   unfold deadL at hm
   split at hm
   ·cases hm;trivial
   ·exact how3 m o hm
  have hfind:∀m o,ou m=some o->deadL (setO ow id (.cells (lC (.mk ku ou' nu nbu bu ksu au)))) (keys (objs R)) m=some o:=fun m o hm=>by
   unfold deadL
   rw[if_neg (hfin m o hm).1]
   exact (hfin m o hm).2
  have hgl:(listT [] (growR e p X)).length<=1048576:=by have:=Q27 (growR e p X) [];simp at this;omega
  have hli:=Qaq (Γ:=Γc) hΓc (growR e p X) (Qlc _ hpk) hgl
  have hck:=Q2r _ (Q4h hpk hcnt)
  refine zca hΓc hli hokd ?_
  refine zA ?_
  refine zca hΓc hck hokd ?_
  refine zA ?_
  refine ACode.cond rfl (fun hbc=>?_) (fun hbc=>?_)
  ·have hc:check (listT [] (growR e p X))≠0:=by simpa using hbc
   refine zA ?_
   exact AFn.fin' rfl (.trans (WkF.tup (.cons (.one (.nilS 5)) (.cons (.refl _) .nil))) (.ofEq (by rw[hhap,if_pos hc];rfl))) (by simp) hokd ⟨ou,hfind,rfl,rfl⟩
  ·have hc:¬check (listT [] (growR e p X))≠0:=by simpa using hbc
   refine zA ?_
   exact AFn.fin' rfl (.ofEq (by rw[hhap,if_neg hc])) (by simp) hokd ⟨ou,hfind,rfl,rfl⟩
theorem Qk5(e:List Ex)(he:okB e)(rule at' n:Int)(h1:rule≠10)(h2:rule≠12):APure Tryz.prog Γc 56 [.one (.sl 5 (e.map cEx)),.agg [int rule,int at',int n]] (.tup [.one (.sl 5 ((Q0p e rule at' n).1.map cEx)),.one (int (Q0p e rule at' n).2)]):=Qdl e he rule at' n fun _ _ _=>NameOk.no h1 h2
def ManyQ (e:List Ex)(ou:Outer)(r:FV)(ou':Outer):Prop:=∃(k ck:Nat)(l:List (Nat×Int×Int))(f:Nm),r=.one (.mp (.o k))/\ou' k=some (.map ck (encI eN l))/\IMOk f ck l/\(∀q,(f q).getD 0=(manyE e q:Nat))/\OuOk ou'/\∀j o,ou j=some o->ou' j=some o
theorem Qls(e:List Ex)(x:Ex)(q:Int):manyE (e++[x]) q=manyE e q+if x.op=0/\x.n=q then 1 else 0:=by
 unfold manyE
 rw[List.countP_append,List.countP_singleton]
 simp
theorem many_le(e:List Ex)(q:Int):manyE e q<=e.length:=List.countP_le_length
theorem Qav(hΓ:∀g cs,(g,cs)∈Γ->idsL isO cs)(e:List Ex)(hel:e.length<=1048576)(ou:Outer):AFn Tryz.prog Γ 85 [.one (.sl 5 (e.map cEx))] ou (ManyQ e ou):=by
 refine AFn.walk 23 tabOk Tryz.func85 rfl (by kernel_rfl) rfl rfl fun hou=>?_
 refine zA ?_
 refine zS (AStep.makeMap rfl) ?_
 refine zA ?_
 refine ACode.loopR hΓ (α:=Nat×Nat×List (Nat×Int×Int)×Nm) (fun c=>[(9,.one (int c.1)),(8,.one (int (e.map cEx).length)),(7,.one (.sl 5 (e.map cEx))),(3,.one (.mp (.l 0)))])
  (fun c=>⟨1,[(0,.map c.2.1 (encI eN c.2.2.1))],ou⟩) (fun m c=>c.1<=e.length/\(IMOk c.2.2.2 c.2.1 c.2.2.1/\∀q,(c.2.2.2 q).getD 0=(manyE (e.take c.1) q:Nat))/\m=e.length - c.1) (a0:=(0,0,[],fun _=>none)) (ρ:=id) ⟨by omega,⟨IMOk.nil,by simp[manyE]⟩,rfl⟩
  (LessR.of rfl zFS (by simp) (LoSub.cons rfl rfl rfl (by simp) .nil) rfl rfl hou) fun m c hc=>?_
 obtain⟨i,ck,l,f⟩:=c
 obtain⟨hil,⟨hI,hf⟩,rfl⟩:=hc
 dsimp only at hil hI hf
 refine zA ?_
 refine ACode.cond rfl (fun hb2=>?_) (fun hb2=>?_)
 ·have hlt:i < e.length:=by simpa using hb2
  obtain⟨x,hx⟩:=Q00 hlt
  have hsn:=Qls (e.take i) x
  rw[←Q0n hx]at hsn
  refine zA ?_
  refine zS (zIA rfl rfl rfl (by omega) (Q04 hx)) ?_
  refine zA ?_
  refine ACode.cond rfl (fun hb3=>?_) (fun hb3=>?_)
  ·have h0:x.op=0:=by simpa using hb3
   have hle:=many_le (e.take i) x.n
   have hle2:(e.take i).length<=e.length:=by simp;omega
   refine zA ?_
   refine zS (AStep.lookI eN (cm:=false) (v:=.one (int (manyE (e.take i) x.n:Nat))) rfl Tryz.underlying122 Tryz.underlying3 rfl rfl rfl (by kernel_rfl) zeroN hI (by rw[←hf x.n];cases f x.n <;> rfl)) ?_
   refine zM ?_
   refine AOps.putI eN (v:=(manyE (e.take i) x.n:Nat)+1) rfl rfl rfl Tryz.underlying122 Tryz.underlying3 rfl rfl rfl rfl hI fun ck' l' hI'=>?_
   refine zM ?_
   refine cInv ⟨e.length - (i+1),(i+1,ck',l',_),id,by omega,⟨by omega,⟨hI',fun q=>?_⟩,rfl⟩,LessR.of rfl zFS (by simp) (LoSub.cons rfl (AObj.ren_pure _ _ (Q2x _ _ _)).symm rfl (by simp) .nil) rfl rfl hou⟩
   show (setF f x.n ((manyE (e.take i) x.n:Nat)+1) q).getD 0=_
   rw[hsn]
   unfold setF
   by_cases hq:x.n=q
   ·subst hq;simp[h0]
   ·rw[if_neg hq,if_neg (by simp[hq])];exact hf q
  ·have h0:¬x.op=0:=by simpa using hb3
   refine zM ?_
   refine cInv ⟨e.length - (i+1),(i+1,ck,l,f),id,by omega,⟨by omega,⟨hI,fun q=>?_⟩,rfl⟩,LessR.of rfl zFS (by simp) (LoSub.cons rfl (AObj.ren_pure _ _ (Q2x _ _ _)).symm rfl (by simp) .nil) rfl rfl hou⟩
   rw[hsn,if_neg (by simp[h0])];exact hf q
 ·have hlt:i=e.length:=by simp at hb2;omega
  subst hlt
  rw[List.take_length]at hf
  repeat ((fail_if_success ((with_reducible refine oj ?_);refine AOps.atDst 22 rfl ?_));first|refine zO ?_)
  refine AOps.cedes [0] rfl (by decide) hou fun k hk=>⟨[(3,.one (.mp (.o k)))],[],[.map ck (encI eN l)],.cons rfl rfl .nil,.nil,?_,?_⟩
  ·exact .cons rfl (AObj.sub_f (fun i hi=>by cases i with|l q=>exact hi.elim|o q=>rfl) _ (Q2x _ _ _)) .nil
  have hN:=NewO.add hk hou (o:=.map ck (encI eN l)) (Q2x _ _ _)
  refine zA ?_
  exact AFn.fin' rfl (WkF.refl _) (by simp) hN.ok ⟨k,ck,l,f,rfl,hN.own (k,.map ck (encI eN l)) (by simp),hI,hf,hN.ok,fun j o hj=>hN.oldS hj⟩
theorem Qmv(hΓ:∀g cs,(g,cs)∈Γ->idsL isO cs)(rule:Int)(i:Nat)(n q:Int)(v d:LTr)(cnt:Nat)(hpl:Q24 v)(hok:okT (erT (.mk i 4 n none [q] [v,d] [])))(hsh:allT shpL (erT (.mk i 4 n none [q] [v,d] [])))(ou:Outer)
  (ho:Owns ou (objs (.mk i 4 n none [q] [v,d] []))):
  AFn Tryz.prog Γ 101 [.one (int rule),.one (.ptr (.o i) 0),.one (int cnt)] ou (fun r ou'=>r=.one (.lit (.bool (Qdd rule (erT (.mk i 4 n none [q] [v,d] [])) cnt)))/\ou'=ou):=by
 have hi:ou i=some (.cells (lC (.mk i 4 n none [q] [v,d] []))):=Q09 ho
 simp only[lC,bC]at hi
 have hvm:v∈(LTr.mk i 4 n none [q] [v,d] []).kids:=by simp[LTr.kids]
 have hvo:=Q14 ho hvm
 have hvk:=Q2k hok (Q1y hvm)
 have hvs:=Q1x hsh (Q1y hvm)
 have hval:=Q43 hΓ (erT v) hvk hvs
 have hat:=Qdf (Γ:=Γ) (erT v)
 obtain⟨X,hX⟩:∃X,X=Qdd rule (erT (.mk i 4 n none [q] [v,d] [])) cnt:=⟨_,rfl⟩
 rw[←hX]
 have hL:X=if rule=2 then atomT (erT v)else if rule=3 then cnt==0&&valT (erT v)else if rule=8 then (erT v).op==4 else if rule=9 then (erT v).op==7&&(erT v).alts.length==1 else if rule=11 then (erT v).op==2&&cnt==1 else false:=hX
 clear hX
 have hcz:((cnt:Int)==0)=(cnt==0):=by rw[Bool.eq_iff_iff];simp
 have hc1:((cnt:Int)==1)=(cnt==1):=by rw[Bool.eq_iff_iff];simp;omega
 cases v with
 |mk j op2 n2 nb2 b2 ks2 a2=>
 obtain rfl:nb2=none:=hpl.1
 have hv:ou j=some (.cells (lC (.mk j op2 n2 none b2 ks2 a2))):=Q09 hvo
 simp only[lC,bC]at hv
 have hop:(erT (.mk j op2 n2 none b2 ks2 a2)).op=op2:=rfl
 have hal:(erT (.mk j op2 n2 none b2 ks2 a2)).alts.length=a2.length:=by simp[erT]
 have hal2:((a2.map lAlt).length:Int)=(a2.length:Int):=by simp
 have ha1:((a2.length:Int)==1)=(a2.length==1):=by rw[Bool.eq_iff_iff];simp;omega
 rw[hop,hal]at hL
 refine AFn.walk 60 tabOk Tryz.func101 rfl (by kernel_rfl) rfl rfl fun hou=>?_
 by_cases h2:rule=2
 ·subst h2
  rw[if_pos rfl]at hL
  repeat' first|refine zN ?_|((with_reducible refine oj ?_);first|refine zix ?_|refine zow rfl rfl hi ?_|refine zow rfl rfl hv ?_)
  refine AOps.callS hΓ hat (Plain.lit _) rfl rfl rfl rfl rfl rfl (Q2f.t1 (t:=.mk j op2 n2 none b2 ks2 a2) hvo) ?_
  refine zA ?_
  exact AFn.fin' rfl (WkF.ofEq (by rw[hL])) (by simp) hou ⟨rfl,rfl⟩
 rw[if_neg h2]at hL
 by_cases h3:rule=3
 ·subst h3
  rw[if_pos rfl]at hL
  repeat' first|refine zN ?_|((with_reducible refine oj ?_);first|refine zix ?_|refine zow rfl rfl hi ?_|refine zow rfl rfl hv ?_)
  rw[hcz]
  refine AOps.splitS rfl rfl rfl rfl (fun hb=>?_) (fun hb=>?_)
  ·refine zM ?_
   refine AOps.callS hΓ hval (Plain.lit _) rfl rfl rfl rfl rfl rfl (Q2f.t1 (t:=.mk j op2 n2 none b2 ks2 a2) hvo) ?_
   refine zA ?_
   exact AFn.fin' rfl (WkF.ofEq (by rw[hL,hb];rfl)) (by simp) hou ⟨rfl,rfl⟩
  ·refine zA ?_
   exact AFn.fin' rfl (WkF.ofEq (by rw[hL,hb];rfl)) (by simp) hou ⟨rfl,rfl⟩
 rw[if_neg h3]at hL
 by_cases h8:rule=8
 ·subst h8
  rw[if_pos rfl]at hL
  repeat' first|refine zN ?_|((with_reducible refine oj ?_);first|refine zix ?_|refine zow rfl rfl hi ?_|refine zow rfl rfl hv ?_)
  exact AFn.fin' rfl (WkF.ofEq (by rw[hL])) (by simp) hou ⟨rfl,rfl⟩
 rw[if_neg h8]at hL
 by_cases h9:rule=9
 ·subst h9
  rw[if_pos rfl]at hL
  repeat' first|refine zN ?_|((with_reducible refine oj ?_);first|refine zix ?_|refine zow rfl rfl hi ?_|refine zow rfl rfl hv ?_)
  refine AOps.splitS rfl rfl rfl rfl (fun hb=>?_) (fun hb=>?_)
  ·repeat' first|refine zN ?_|((with_reducible refine oj ?_);first|refine zix ?_|refine zow rfl rfl hi ?_|refine zow rfl rfl hv ?_)
   exact AFn.fin' rfl (WkF.ofEq (by rw[hL,hb,hal2,ha1];simp)) (by simp) hou ⟨rfl,rfl⟩
  ·refine zA ?_
   exact AFn.fin' rfl (WkF.ofEq (by rw[hL,hb];rfl)) (by simp) hou ⟨rfl,rfl⟩
 rw[if_neg h9]at hL
 by_cases h11:rule=11
 ·subst h11
  rw[if_pos rfl]at hL
  repeat' first|refine zN ?_|((with_reducible refine oj ?_);first|refine zix ?_|refine zow rfl rfl hi ?_|refine zow rfl rfl hv ?_)
  refine AOps.splitS rfl rfl rfl rfl (fun hb=>?_) (fun hb=>?_)
  ·refine zM ?_
   exact AFn.fin' rfl (WkF.ofEq (by rw[hL,hb,hc1];simp)) (by simp) hou ⟨rfl,rfl⟩
  ·refine zA ?_
   exact AFn.fin' rfl (WkF.ofEq (by rw[hL,hb];rfl)) (by simp) hou ⟨rfl,rfl⟩
 rw[if_neg h11]at hL
 repeat' first|refine zN ?_|((with_reducible refine oj ?_);first|refine zix ?_|refine zow rfl rfl hi ?_|refine zow rfl rfl hv ?_)|(with_reducible refine oj ?_;refine AOps.splitS rfl rfl rfl rfl (fun hb=>?_) (fun hb=>?_))|(with_reducible refine ok ?_;first|refine ACode.condS rfl (fun hb=>?_) (fun hb=>?_)|refine ACode.cond rfl (fun hb=>?_) (fun hb=>?_))
 all_goals first
  |(exfalso;simp at *;omega)
  |exact AFn.fin' rfl (WkF.ofEq (by rw[hL])) (by simp) hou ⟨rfl,rfl⟩
end Go.Proofs.YtpaonemmbhbgoaaGreatDoor
