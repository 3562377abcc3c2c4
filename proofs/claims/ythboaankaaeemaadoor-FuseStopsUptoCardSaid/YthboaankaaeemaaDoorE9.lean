/- Rules with holes, as plain data: matching, filling, the walk; and that at its end no rule matches. No condition. -/
import Derived.Test.YthboaankaaeemaaDoorE8
set_option maxRecDepth 10000
set_option linter.unusedVariables false
set_option linter.unusedSimpArgs false
namespace Go.CoreX
structure MtS where
 nm:Int->Option Int
 vs:List Int
 fd:List (Option Tr)
def putF:(Int->Option Int)->List Int->List Int->(Int->Option Int)
 |f,[],_=>f
 |f,x::l,k=>putF (fun j=>if j=x then some (k.headD 0)else f j) l k.tail
def altsF:List Alt->List Alt->Bool
 |[],_=>true
 |x::l,m=>(x.tag==(m.headD ⟨0,[]⟩).tag&&x.binds.length==(m.headD ⟨0,[]⟩).binds.length)&&altsF l m.tail
mutual
def Q08 (h:Int):Tr->Tr->MtS->Bool×MtS
 |.mk o n b ks a,.mk o' n' b' ks' a',s=>
  if o=0/\n < h then (!(Q0r (.mk o' n' b' ks' a')).any (fun x=>s.vs.contains x),{ s with fd:=s.fd.set n.toNat (some (.mk o' n' b' ks' a')) }) else
  if o≠o'∨ks.length≠ks'.length∨b.length≠b'.length∨a.length≠a'.length then (false,s) else
  if o=0 then (s.nm n==some n',s) else
  if n≠n'∨(o=9/\b≠b')then (false,s) else
  if altsF a a'=false then (false,s) else
  Q0l h ks ks' { s with nm:=putF s.nm (Q04 o b a) (Q04 o' b' a'),vs:=s.vs++Q04 o' b' a' }
def Q0l (h:Int):List Tr->List Tr->MtS->Bool×MtS
 |[],_,s=>(true,s)
 |p::ps,ts,s=>bif (Q08 h p (ts.headD default) s).1 then Q0l h ps ts.tail (Q08 h p (ts.headD default) s).2 else (false,(Q08 h p (ts.headD default) s).2)
end
mutual
def fillF (h:Int)(fd:List (Option Tr)):Tr->Tr
 |.mk o n b ks a=>if o=0/\n < h then (fd.getD n.toNat none).getD default else .mk o n b (Q5f h fd ks) a
def Q5f (h:Int)(fd:List (Option Tr)):List Tr->List Tr
 |[]=>[]
 |t::l=>fillF h fd t::Q5f h fd l
end
structure RuF where
 holes:Nat
 l:Tr
 r:Tr
def s0F (n:Nat):MtS:=⟨fun _=>none,[],List.replicate n none⟩
def matF (r:RuF)(t:Tr):Bool:=(Q08 r.holes r.l t (s0F r.holes)).1
def replF (r:RuF)(t:Tr):Option Tr:=if matF r t=true then some (fillF r.holes (Q08 r.holes r.l t (s0F r.holes)).2.fd r.r)else none
def stepF (R:List RuF)(t:Tr):Option Tr:=R.findSome? fun r=>replF r t
def loopF (R:List RuF)(lim:Nat):Nat->Tr->Nat->Tr×Nat
 |0,t,s=>(t,s)
 |n+1,t,s=>if s=lim then (t,s)else match stepF R t with
  |none=>(t,s)
  |some t'=>loopF R lim n t' (s+1)
mutual
def walkF (R:List RuF)(lim:Nat):Tr->Nat->Tr×Nat
 |.mk o n b ks a,s=>loopF R lim (lim+1) (.mk o n b (Q14 R lim ks s).1 a) (Q14 R lim ks s).2
def Q14 (R:List RuF)(lim:Nat):List Tr->Nat->List Tr×Nat
 |[],s=>([],s)
 |t::l,s=>((walkF R lim t s).1::(Q14 R lim l (walkF R lim t s).2).1,(Q14 R lim l (walkF R lim t s).2).2)
end
def noM (R:List RuF)(t:Tr):Prop:=∀r∈R,matF r t=false
mutual
def noMA (R:List RuF):Tr->Prop
 |.mk o n b ks a=>noM R (.mk o n b ks a)/\noMAs R ks
def noMAs (R:List RuF):List Tr->Prop
 |[]=>True
 |t::l=>noMA R t/\noMAs R l
end
theorem Q58{R:List RuF}{t:Tr}:noMA R t↔noM R t/\noMAs R t.kids:=by cases t;exact Iff.rfl
theorem Qf7{R:List RuF}{t:Tr}(h:stepF R t=none):noM R t:=fun r hr=>by
 unfold stepF at h
 rw[List.findSome?_eq_none_iff]at h
 have:=h r hr
 unfold replF at this
 split at this
 ·cases this
 ·rename_i h1;simpa using h1
def GoodF (R:List RuF):Prop:=∀t t',stepF R t=some t'->noMAs R t.kids->noMAs R t'.kids
theorem Qae(R:List RuF)(lim:Nat):∀(n:Nat)(t:Tr)(s:Nat),s<=(loopF R lim n t s).2
 |0,_,s=>Nat.le_refl s
 |n+1,t,s=>by
  unfold loopF
  split
  ·exact Nat.le_refl s
  split
  ·exact Nat.le_refl s
  ·rename_i t' _
   have:=Qae R lim n t' (s+1)
   omega
theorem Qbq{R:List RuF}(hR:GoodF R){lim:Nat}:∀(n:Nat)(t:Tr)(s:Nat),lim < n+s->noMAs R t.kids->(loopF R lim n t s).2 < lim->noMA R (loopF R lim n t s).1
 |0,t,s,hn,_,h=>by
  have h:s < lim:=h
  omega
 |n+1,t,s,hn,hk,h=>by
  unfold loopF at h ⊢
  by_cases hs:s=lim
  ·rw[if_pos hs]at h;omega
  rw[if_neg hs]at h ⊢
  cases hx:stepF R t with
  |none=>exact Q58.2 ⟨Qf7 hx,hk⟩
  |some t'=>
   rw[hx]at h
   exact Qbq hR n t' (s+1) (by omega) (hR t t' hx hk) h
mutual
theorem Qi7(R:List RuF)(lim:Nat):∀(t:Tr)(s:Nat),s<=(walkF R lim t s).2
 |.mk o n b ks a,s=>by
  have h1:=Q6y R lim ks s
  have h2:=Qae R lim (lim+1) (.mk o n b (Q14 R lim ks s).1 a) (Q14 R lim ks s).2
  simp only[walkF];omega
theorem Q6y(R:List RuF)(lim:Nat):∀(l:List Tr)(s:Nat),s<=(Q14 R lim l s).2
 |[],s=>Nat.le_refl s
 |t::l,s=>by
  have h1:=Qi7 R lim t s
  have h2:=Q6y R lim l (walkF R lim t s).2
  simp only[Q14];omega
end
mutual
theorem Qb1{R:List RuF}(hR:GoodF R){lim:Nat}:∀(t:Tr)(s:Nat),(walkF R lim t s).2 < lim->noMA R (walkF R lim t s).1
 |.mk o n b ks a,s,h=>by
  have h2:=Qae R lim (lim+1) (.mk o n b (Q14 R lim ks s).1 a) (Q14 R lim ks s).2
  simp only[walkF]at h ⊢
  exact Qbq hR _ _ _ (by omega) (Q8h hR ks s (by omega)) h
theorem Q8h{R:List RuF}(hR:GoodF R){lim:Nat}:∀(l:List Tr)(s:Nat),(Q14 R lim l s).2 < lim->noMAs R (Q14 R lim l s).1
 |[],s,_=>trivial
 |t::l,s,h=>by
  simp only[Q14]at h ⊢
  have h2:=Q6y R lim l (walkF R lim t s).2
  exact⟨Qb1 hR t s (by omega),Q8h hR l _ h⟩
end
theorem Qgp(lim:Nat):∀(n:Nat)(t:Tr)(s:Nat),loopF [] lim n t s=(t,s)
 |0,_,_=>rfl
 |n+1,t,s=>by unfold loopF;split <;> rfl
mutual
theorem Qb2(lim:Nat):∀(t:Tr)(s:Nat),walkF [] lim t s=(t,s)
 |.mk o n b ks a,s=>by simp only[walkF,Qgp,Q8i lim ks s]
theorem Q8i(lim:Nat):∀(l:List Tr)(s:Nat),Q14 [] lim l s=(l,s)
 |[],s=>rfl
 |t::l,s=>by simp only[Q14,Qb2 lim t s,Q8i lim l s]
end
end Go.CoreX
namespace Go.CoreX
end Go.CoreX
namespace Go.CoreX
def vT (i:Int):Tr:=.mk 0 i [] [] []
def wT (i:Int):Tr:=.mk 1 i [] [] []
def Q0e:RuF:=⟨1,.mk 8 2 [] [.mk 8 0 [] [vT 0,wT 0] [],wT 1] [],.mk 8 0 [] [vT 0,wT 0] []⟩
def Q0g:RuF:=⟨1,.mk 4 0 [1] [vT 0,vT 1] [],vT 0⟩
def Q48:List RuF:=[Q0e,Q0g]
theorem Q19{h o n:Int}{b:List Int}{ks:List Tr}{a:List Alt}{t:Tr}{s:MtS}(hm:(Q08 h (.mk o n b ks a) t s).1=true)(h0:o≠0):
  t.op=o/\t.n=n/\t.kids.length=ks.length/\t.binds.length=b.length/\t.alts.length=a.length/\Q08 h (.mk o n b ks a) t s=Q0l h ks t.kids { s with nm:=putF s.nm (Q04 o b a) (Q04 t.op t.binds t.alts),vs:=s.vs++Q04 t.op t.binds t.alts }:=by
 obtain⟨o',n',b',ks',a'⟩:=t
 simp only[Q08]at hm
 rw[if_neg (fun h=>h0 h.1)]at hm
 by_cases h2:o≠o'∨ks.length≠ks'.length∨b.length≠b'.length∨a.length≠a'.length
 ·rw[if_pos h2]at hm;cases hm
 rw[if_neg h2,if_neg h0]at hm
 by_cases h3:n≠n'∨(o=9/\b≠b')
 ·rw[if_pos h3]at hm;cases hm
 rw[if_neg h3]at hm
 by_cases h4:altsF a a'=false
 ·rw[if_pos h4]at hm;cases hm
 have h5:Q08 h (.mk o n b ks a) (.mk o' n' b' ks' a') s=Q0l h ks ks' { s with nm:=putF s.nm (Q04 o b a) (Q04 o' b' a'),vs:=s.vs++Q04 o' b' a' }:=by
  simp only[Q08]
  rw[if_neg (fun h=>h0 h.1),if_neg h2,if_neg h0,if_neg h3,if_neg h4]
 simp only[not_or,Decidable.not_not]at h2 h3
 exact⟨h2.1.symm,h3.1.symm,h2.2.1.symm,h2.2.2.1.symm,h2.2.2.2.symm,h5⟩
theorem Q20{h:Int}{p t:Tr}{ps ts:List Tr}{s:MtS}(hm:(Q0l h (p::ps) (t::ts) s).1=true):(Q08 h p t s).1=true/\(Q0l h ps ts (Q08 h p t s).2).1=true/\Q0l h (p::ps) (t::ts) s=Q0l h ps ts (Q08 h p t s).2:=by
 simp only[Q0l,List.headD_cons,List.tail_cons]at hm ⊢
 cases h1:(Q08 h p t s).1 with
 |false=>rw[h1,cond_false]at hm;cases hm
 |true=>
  rw[h1,cond_true]at hm
  exact⟨rfl,hm,rfl⟩
theorem Q96{n:Int}{t:Tr}{s:MtS}(hn:n < 1):(Q08 1 (vT n) t s).2={ s with fd:=s.fd.set n.toNat (some t) }:=by
 obtain⟨o',n',b',ks',a'⟩:=t
 simp only[vT,Q08]
 rw[if_pos ⟨trivial,hn⟩]
theorem Qfg{t:Tr}{s:MtS}:(Q08 1 (vT 1) t s).2=s:=by
 obtain⟨o',n',b',ks',a'⟩:=t
 simp only[vT,Q08]
 rw[if_neg (by decide)]
 split
 ·rfl
 ·rfl
theorem Q9z{l:List Tr}(h:l.length=2):∃x y,l=[x,y]:=by
 match l,h with
 |[x,y],_=>exact⟨x,y,rfl⟩
theorem Q95{c:Int}{t:Tr}{s:MtS}(hm:(Q08 1 (wT c) t s).1=true):(Q08 1 (wT c) t s).2.fd=s.fd/\t.kids=[]:=by
 obtain⟨h1,h2,h3,h4,h5,h6⟩:=Q19 (b:=[]) (ks:=[]) (a:=[]) hm (by decide)
 refine⟨?_,List.length_eq_zero_iff.1 h3⟩
 unfold wT
 rw[h6]
 rfl
theorem Q9v{t:Tr}(hm:matF Q0e t=true):∃x y,(∃k z,t.kids=[k,z]/\k.kids=[x,y])/\y.kids=[]/\y.op=1/\y.n=0/\y.binds=[]/\y.alts=[]/\(Q08 1 Q0e.l t (s0F 1)).2.fd=[some x]:=by
 have hm:(Q08 1 Q0e.l t (s0F 1)).1=true:=hm
 obtain⟨_,_,h3,_,_,h6⟩:=Q19 (o:=8) hm (by decide)
 obtain⟨k,z,hk⟩:=Q9z h3
 have h6:Q08 1 Q0e.l t (s0F 1)=_:=h6
 rw[h6,hk]at hm
 obtain⟨m1,m2,m3⟩:=Q20 hm
 rw[h6,hk,m3]
 obtain⟨_,_,g3,_,_,g6⟩:=Q19 (o:=8) m1 (by decide)
 obtain⟨x,y,hy⟩:=Q9z g3
 rw[g6,hy]at m1
 obtain⟨q1,q2,q3⟩:=Q20 m1
 obtain⟨r1,r2,r3⟩:=Q20 q2
 obtain⟨w1,w2⟩:=Q95 r1
 obtain⟨y1,y2,_,y4,y5,_⟩:=Q19 (o:=1) r1 (by decide)
 obtain⟨u1,u2,u3⟩:=Q20 m2
 obtain⟨v1,_⟩:=Q95 u1
 refine⟨x,y,⟨k,z,rfl,hy⟩,w2,y1,y2,List.length_eq_zero_iff.1 y4,List.length_eq_zero_iff.1 y5,?_⟩
 rw[u3]
 show (Q08 1 (wT 1) z _).2.fd=_
 rw[v1,g6,hy,q3,r3]
 show (Q08 1 (wT 0) y _).2.fd=_
 rw[w1,Q96 (by decide)]
 rfl
theorem Qa5{t:Tr}(hm:matF Q0g t=true):∃x y,t.kids=[x,y]/\(Q08 1 Q0g.l t (s0F 1)).2.fd=[some x]:=by
 have hm:(Q08 1 Q0g.l t (s0F 1)).1=true:=hm
 obtain⟨_,_,h3,_,_,h6⟩:=Q19 (o:=4) hm (by decide)
 obtain⟨x,y,hk⟩:=Q9z h3
 have h6:Q08 1 Q0g.l t (s0F 1)=_:=h6
 rw[h6,hk]at hm
 obtain⟨m1,m2,m3⟩:=Q20 hm
 obtain⟨r1,r2,r3⟩:=Q20 m2
 refine⟨x,y,hk,?_⟩
 rw[h6,hk,m3,r3]
 show (Q08 1 (vT 1) y _).2.fd=_
 rw[Qfg,Q96 (by decide)]
 rfl
theorem Qir{t:Tr}(h1:t.op=1):noM Q48 t:=fun r hr=>by
 cases hm:matF r t with
 |false=>rfl
 |true=>
  exfalso
  simp only[Q48,List.mem_cons,List.not_mem_nil,or_false]at hr
  rcases hr with rfl|rfl
  ·have:=(Q19 (o:=8) (show (Q08 1 Q0e.l t (s0F 1)).1=true from hm) (by decide)).1
   omega
  ·have:=(Q19 (o:=4) (show (Q08 1 Q0g.l t (s0F 1)).1=true from hm) (by decide)).1
   omega
theorem Qfl:GoodF Q48:=fun t t' h hk=>by
 unfold stepF Q48 at h
 simp only[List.findSome?_cons,List.findSome?_nil]at h
 cases hz:replF Q0e t with
 |some q=>
  rw[hz]at h
  cases h
  unfold replF at hz
  split at hz
  ·rename_i hm
   obtain⟨x,y,⟨k,z,e1,e2⟩,y1,y2,y3,y4,y5,hf⟩:=Q9v hm
   cases hz
   have hf2:(Q08 (Q0e.holes:Int) Q0e.l t (s0F Q0e.holes)).2.fd=[some x]:=hf
   rw[hf2]
   rw[e1]at hk
   have h1:=(Q58.1 hk.1).2
   rw[e2]at h1
   show noMA Q48 x/\noMA Q48 (wT 0)/\True
   exact⟨h1.1,Q58.2 ⟨Qir rfl,trivial⟩,trivial⟩
  ·cases hz
 |none=>
  rw[hz]at h
  cases hs:replF Q0g t with
  |none=>rw[hs]at h;cases h
  |some q=>
   rw[hs]at h
   cases h
   unfold replF at hs
   split at hs
   ·rename_i hm
    obtain⟨x,y,e1,hf⟩:=Qa5 hm
    cases hs
    have hf2:(Q08 (Q0g.holes:Int) Q0g.l t (s0F Q0g.holes)).2.fd=[some x]:=hf
    rw[hf2]
    rw[e1]at hk
    exact (Q58.1 hk.1).2
   ·cases hs
end Go.CoreX
namespace Go.CoreX
theorem Qjc{L D:Tr}{t t':Tr}(h4:L.op≠2)(h:DropR L D t t'):t.op=2->t'.op=2:=fun h2=>by
 cases h with
 |here=>exact absurd h2 h4
 |node _=>exact h2
theorem Qcb{L D:Tr}(h4:L.op≠2):∀{l l':List Tr},DropRs L D l l'->l'.length=l.length/\∀i:Nat,(l.map Tr.op)[i]?=some 2->(l'.map Tr.op)[i]?=some 2
 |_,_,.nil=>⟨rfl,fun i h=>by simp at h⟩
 |_,_,.cons h k=>by
  obtain⟨h1,h2⟩:=Qcb h4 k
  refine⟨by simp[h1],fun i hi=>?_⟩
  cases i with
  |zero=>
   simp only[List.map_cons,List.getElem?_cons_zero,Option.some.injEq]at hi ⊢
   exact Qjc h4 h hi
  |succ i=>
   simp only[List.map_cons,List.getElem?_cons_succ]at hi ⊢
   exact h2 i hi
mutual
theorem Qcc{L D:Tr}(h4:L.op≠2)(hD:allT pLab D):∀{t t':Tr},DropR L D t t'->allT pLab t->allT pLab t'
 |_,_,.here,_=>hD
 |_,_,.node h,⟨h1,h2⟩=>by
  obtain⟨e1,e2⟩:=Qcb h4 h
  exact⟨Qij (by simp[e1]) e2 h1,Q9l h4 hD h h2⟩
theorem Q9l{L D:Tr}(h4:L.op≠2)(hD:allT pLab D):∀{l l':List Tr},DropRs L D l l'->allTs pLab l->allTs pLab l'
 |_,_,.nil,_=>trivial
 |_,_,.cons h k,⟨h1,h2⟩=>⟨Qcc h4 hD h h1,Q9l h4 hD k h2⟩
end
theorem Qdc{t t1 L D:Tr}(hc:check (listT [] t)=0)(h:DropR L D t t1)(h4:L.op≠2)(hD:allT pLab D)(h1:cntN D<=cntN L)(h2:Q0w D<=Q0w L)(h3:(bndT D).Sublist (bndT L))(ho:∀sc,occT sc L=[]->occT sc D=[]):check (listT [] t1)=0:=by
 obtain⟨p1,p2,p3,p4⟩:=Q35 hc
 obtain⟨q1,q2,q3⟩:=(Q1z _).1 p1
 have t2:=Q16 t1
 have c1:=Q2a t []
 have c2:=Q2a t1 []
 have c3:=Qev h1 h
 have c4:=Q9j h2 h
 have hp:=Q9o hc
 rw[Q0c]at hp q3 p4
 refine Qje ((Q1z _).2 ⟨?_,t2,?_⟩) (fun y hy=>?_) ?_ ?_
 ·simp only[List.length_nil]at c1 c2;omega
 ·rw[Q0c];omega
 ·have:=Qcm t2 (by rw[Q0c];exact Qcc h4 hD h hp) _ (List.mem_map_of_mem (f:=labE (listT [] t1)) hy)
  exact this _ y (Q7m t2.k hy) rfl
 ·have h5:=Qhp hc
  rw[Q0c]at h5
  have h6:=Qji t2
  rw[Q0c]at h6
  exact h6.nodup_iff.2 ((Qew h3 h).nodup h5)
 ·rw[Q0c];exact Qc7 ho h [] p4
end Go.CoreX
namespace Go.CoreX
inductive LFt where
 |mk (id:Nat) (op n:Int) (kb:Nb) (kids:List LFt)
instance:Inhabited LFt:=⟨.mk 0 0 0 none []⟩
def LFt.id:LFt->Nat|.mk i _ _ _ _=>i
def LFt.op:LFt->Int|.mk _ o _ _ _=>o
def LFt.n:LFt->Int|.mk _ _ n _ _=>n
def LFt.kids:LFt->List LFt|.mk _ _ _ _ k=>k
mutual
def erFt:LFt->Tr
 |.mk _ o n _ k=>.mk o n [] (erFts k) []
def erFts:List LFt->List Tr
 |[]=>[]
 |t::ts=>erFt t::erFts ts
end
theorem Q40:∀l:List LFt,erFts l=l.map erFt
 |[]=>rfl
 |t::l=>by simp[erFts,Q40 l]
mutual
def okFt:LFt->Prop
 |.mk _ _ _ kb k=>(kb=none->k=[])/\(∀a c,kb=some (a,c)->k.length<=c)/\k.length<=1048576/\okFts k
def okFts:List LFt->Prop
 |[]=>True
 |t::l=>okFt t/\okFts l
end
theorem Qbh:∀{l:List LFt},okFts l->∀{t:LFt},t∈l->okFt t
 |_::l,h,t,ht=>by
  rcases List.mem_cons.1 ht with rfl|ht
  ·exact h.1
  ·exact Qbh h.2 ht
theorem Qe5:∀{l:List LFt},(∀t∈l,okFt t)->okFts l
 |[],_=>trivial
 |t::l,h=>⟨h t (by simp),Qe5 fun u hu=>h u (by simp[hu])⟩
end Go.CoreX
namespace Go.Proofs.YthboaankaaeemaaDoor
open Go Go.Abs Go.CoreX
variable {Γ:List (Nat×List AC)}
def kFt (l:List LFt):List (List AC):=l.map fun t=>[.ptr (.o t.id) 0]
def kcFt:Nb->List (List AC)->AC
 |none,l=>.sl 1 l
 |some (a,cap),l=>.arr (.o a) 1 0 l.length cap
def koFt:Nb->List (List AC)->List (Nat×AObj)
 |none,_=>[]
 |some (a,cap),l=>[(a,.cells (vec 1 l cap))]
def nFt (o n:Int)(kb:Nb)(l:List (List AC)):AObj:=.cells [int o,int n,.sl 1 [],kcFt kb l,.sl 2 []]
mutual
def obFt:LFt->List (Nat×AObj)
 |.mk i o n kb k=>(i,nFt o n kb (kFt k))::(koFt kb (kFt k)++obFts k)
def obFts:List LFt->List (Nat×AObj)
 |[]=>[]
 |t::ts=>obFt t++obFts ts
end
theorem Qe9:∀l:List LFt,obFts l=l.flatMap obFt
 |[]=>rfl
 |t::l=>by simp[obFts,Qe9 l]
theorem Q4t(l:List LFt):(kFt l).length=l.length:=by simp[kFt]
theorem Qj0(l:List LFt)(t:LFt):kFt (l++[t])=kFt l++[[.ptr (.o t.id) 0]]:=by simp[kFt]
theorem Qd5(p:Abs.Id->Prop)(hp:∀k,p (.o k)):∀l:List LFt,idsS p (kFt l)
 |[]=>trivial
 |t::l=>⟨⟨hp _,trivial⟩,Qd5 p hp l⟩
@[simp] theorem Q7q (l:List LFt):idsS isO (kFt l):=Qd5 _ (fun _=>trivial) l
@[simp] theorem ids_kFt_l (k:Nat) (l:List LFt):idsS (inL k) (kFt l):=Qd5 _ (fun _=>trivial) l
@[simp] theorem ren_kFt (ρ:Nat->Nat) (l:List LFt):renS ρ (kFt l)=kFt l:=Q1h ρ _ (Q7q l)
theorem ids_nFt(o n:Int)(kb:Nb){l:List (List AC)}(h:idsS isO l):(nFt o n kb l).ids isO:=by
 cases kb with
 |none=>simp[nFt,kcFt,h]
 |some x=>simp[nFt,kcFt]
def ownFt:LFt->List (Nat×AObj)
 |.mk i o n kb k=>koFt kb (kFt k)++[(i,nFt o n kb (kFt k))]
theorem Qiq:∀(t:LFt)(p:Nat×AObj),p∈obFt t↔p∈ownFt t∨p∈obFts t.kids
 |.mk i o n kb k,p=>by
  simp only[obFt,ownFt,LFt.kids,List.mem_cons,List.mem_append,List.not_mem_nil,or_false]
  constructor
  ·rintro (h|h|h) <;> simp[h]
  ·rintro ((h|h)|h) <;> simp[h]
mutual
def glF:LFt->LTr
 |.mk i o n kb k=>.mk i o n kb [] (glFs k) []
def glFs:List LFt->List LTr
 |[]=>[]
 |t::ts=>glF t::glFs ts
end
theorem Qhb:∀l:List LFt,glFs l=l.map glF
 |[]=>rfl
 |t::l=>by simp[glFs,Qhb l]
theorem Qei(kb:Nb)(l:List (List AC)):keys (bO kb [])=keys (koFt kb l):=by
 cases kb with
 |none=>rfl
 |some x=>rfl
mutual
theorem Qeh:∀t:LFt,keys (objs (glF t))=keys (obFt t)
 |.mk i o n kb k=>by
  have h:=Qbv k
  have h2:=Qei kb (kFt k)
  rw[glF,Q2e,obFt]
  simp only[keys,List.map_cons,List.map_append,aO,List.flatMap_nil,List.append_nil]at h h2 ⊢
  rw[h,h2]
theorem Qbv:∀l:List LFt,keys (objss (glFs l))=keys (obFts l)
 |[]=>rfl
 |t::l=>by
  have h1:=Qeh t
  have h2:=Qbv l
  simp only[keys]at h1 h2
  simp only[glFs,objss,obFts,keys,List.map_append,h1,h2]
end
theorem Q99:∀l:List LFt,keys ((l.map glF).flatMap ownO)=keys (l.flatMap ownFt)
 |[]=>rfl
 |t::l=>by
  have h:=Q99 l
  obtain⟨i,o,n,kb,k⟩:=t
  have h2:=Qei kb (kFt k)
  simp only[keys]at h h2
  simp only[List.map_cons,List.flatMap_cons,keys,List.map_append,h]
  congr 1
  simp only[glF,ownO,ownFt,List.map_append,aO,List.flatMap_nil,List.append_nil,h2]
  rfl
structure LinkF (e:List Ex)(lts:List LFt):Prop where
 len:lts.length=e.length
 at_:∀(i:Nat) (x:Ex),e[i]?=some x->∃id kb,lts[i]?=some (.mk id x.op x.n kb (x.kids.map fun q=>lts.getD q.toNat default))/\(kb=none->x.kids=[])/\∀a c,kb=some (a,c)->x.kids.length<=c
theorem LinkF.nil:LinkF [] []:=⟨rfl,fun i x h=>by simp at h⟩
theorem LinkF.snoc{e:List Ex}{lts:List LFt}(h:LinkF e lts)(hk:Q0h e){x:Ex}(hx:∀q∈x.kids,0<=q/\q < (e.length:Int)){id:Nat}{kb:Nb}(h1:kb=none->x.kids=[])(h2:∀a c,kb=some (a,c)->x.kids.length<=c):
  LinkF (e++[x]) (lts++[.mk id x.op x.n kb (x.kids.map fun q=>lts.getD q.toNat default)]):=by
 have hgd:∀(q:Int),0<=q->q < (e.length:Int)->∀t,(lts++[t]).getD q.toNat default=lts.getD q.toNat default:=fun q h0 h1 t=>Q5b (by rw[h.len];omega)
 refine⟨by simp[h.len],fun i y hy=>?_⟩
 by_cases hi:i < e.length
 ·rw[List.getElem?_append_left hi]at hy
  obtain⟨id',kb',g1,g2,g3⟩:=h.at_ i y hy
  refine⟨id',kb',?_,g2,g3⟩
  rw[List.getElem?_append_left (by rw[h.len];exact hi),g1]
  congr 2
  refine List.map_congr_left fun q hq=>?_
  have:=hk i y hy q hq
  exact (hgd q this.1 (by omega) _).symm
 ·have hie:i=e.length:=by
   have:=(List.getElem?_eq_some_iff.1 hy).1
   simp at this;omega
  subst hie
  simp at hy
  subst hy
  refine⟨id,kb,?_,h1,h2⟩
  rw[←h.len,List.getElem?_append_right (by simp)]
  simp only[Nat.sub_self,List.getElem?_cons_zero]
  congr 2
  exact List.map_congr_left fun q hq=>(hgd q (hx q hq).1 (hx q hq).2 _).symm
def noB (e:List Ex):Prop:=∀x∈e,x.binds=[]/\x.alts=[]
section
variable {e:List Ex}{lts:List LFt}
theorem LinkF.getD(h:LinkF e lts){i:Nat}{t:LFt}(ht:lts[i]?=some t):lts.getD i default=t:=by rw[List.getD_eq_getElem?_getD,ht];rfl
theorem LinkF.gl(h:LinkF e lts)(hk:Q0h e)(hb:noB e):LinkL e (lts.map glF) fun _ _=>True:=by
 refine⟨by simp[h.len],fun i x hx=>?_⟩
 obtain⟨id,kb,h1,_,_⟩:=h.at_ i x hx
 obtain⟨b1,b2⟩:=hb x (List.mem_of_getElem? hx)
 refine⟨id,kb,[],?_,by rw[b2];rfl,trivial,fun _ _=>trivial⟩
 rw[List.getElem?_map,h1,b1]
 simp only[Option.map_some,glF,Qhb,List.map_map]
 congr 2
 refine List.map_congr_left fun q hq=>?_
 have hq':=hk i x hx q hq
 have hi:=(List.getElem?_eq_some_iff.1 hx).1
 obtain⟨t',ht'⟩:=Q00 (l:=lts) (i:=q.toNat) (by rw[h.len];omega)
 simp only[Function.comp,h.getD ht',List.getD_eq_getElem?_getD,List.getElem?_map,ht',Option.map_some,Option.getD_some]
theorem LinkF.er(h:LinkF e lts)(hk:Q0h e)(hb:noB e):∀(n i:Nat)(t:LFt),i < n->lts[i]?=some t->erFt t=Q0t e i
 |0,i,t,hi,_=>by omega
 |n+1,i,t,hi,ht=>by
  have hil:i < e.length:=by rw[←h.len];exact (List.getElem?_eq_some_iff.1 ht).1
  obtain⟨x,hx⟩:=Q00 hil
  obtain⟨id,kb,h1,_,_⟩:=h.at_ i x hx
  obtain⟨b1,b2⟩:=hb x (List.mem_of_getElem? hx)
  rw[ht]at h1
  cases h1
  rw[Q2z hk hx,b1,b2]
  simp only[erFt,Q40,List.map_map]
  congr 1
  refine List.map_congr_left fun q hq=>?_
  have hq':=hk i x hx q hq
  obtain⟨t',ht'⟩:=Q00 (l:=lts) (i:=q.toNat) (by rw[h.len];omega)
  simp only[Function.comp,h.getD ht']
  exact h.er hk hb n q.toNat t' (by omega) ht'
theorem LinkF.ok(h:LinkF e lts)(hk:Q0h e)(he:okE e):∀(n i:Nat)(t:LFt),i < n->lts[i]?=some t->okFt t
 |0,i,t,hi,_=>by omega
 |n+1,i,t,hi,ht=>by
  have hil:i < e.length:=by rw[←h.len];exact (List.getElem?_eq_some_iff.1 ht).1
  obtain⟨x,hx⟩:=Q00 hil
  obtain⟨id,kb,h1,h2,h3⟩:=h.at_ i x hx
  rw[ht]at h1
  cases h1
  refine⟨fun hn=>by rw[h2 hn];rfl,fun a c hc=>by rw[List.length_map];exact h3 a c hc,by rw[List.length_map];exact (he.x x (List.mem_of_getElem? hx)).k,Qe5 fun u hu=>?_⟩
  obtain⟨q,hq,rfl⟩:=List.mem_map.1 hu
  have hq':=hk i x hx q hq
  obtain⟨t',ht'⟩:=Q00 (l:=lts) (i:=q.toNat) (by rw[h.len];omega)
  rw[h.getD ht']
  exact h.ok hk he n q.toNat t' (by omega) ht'
theorem LinkF.own(h:LinkF e lts)(hk:Q0h e):∀(n i:Nat)(t:LFt),i < n->lts[i]?=some t->∀p∈obFt t,p∈lts.flatMap ownFt
 |0,i,t,hi,_=>by omega
 |n+1,i,t,hi,ht=>fun p hp=>by
  have hil:i < e.length:=by rw[←h.len];exact (List.getElem?_eq_some_iff.1 ht).1
  obtain⟨x,hx⟩:=Q00 hil
  obtain⟨id,kb,h1,_,_⟩:=h.at_ i x hx
  rw[ht]at h1
  rcases (Qiq t p).1 hp with hp|hp
  ·exact List.mem_flatMap.2 ⟨t,List.mem_of_getElem? ht,hp⟩
  ·cases h1
   simp only[LFt.kids,Qe9]at hp
   obtain⟨u,hu,hpu⟩:=List.mem_flatMap.1 hp
   obtain⟨q,hq,rfl⟩:=List.mem_map.1 hu
   have hq':=hk i x hx q hq
   obtain⟨t',ht'⟩:=Q00 (l:=lts) (i:=q.toNat) (by rw[h.len];omega)
   rw[h.getD ht']at hpu
   exact h.own hk n q.toNat t' (by omega) ht' p hpu
theorem LinkF.nodup(h:LinkF e lts)(ht:IsTree e)(hb:noB e)(hn:(keys (lts.flatMap ownFt)).Nodup){t:LFt}(hr:lts[e.length - 1]?=some t):(keys (obFt t)).Nodup:=by
 rw[←Qeh]
 refine (h.gl ht.k hb).nodup ht (by rw[Q99];exact hn) ?_
 rw[List.getElem?_map,hr];rfl
end
def Q1v (ts:List LFt)(n:Nat):List AC:=ts.map (fun t=>.ptr (.o t.id) 0)++List.replicate (n - ts.length) (.lit (.pointer none))
theorem Qff(n:Nat):Q1v [] n=List.replicate n (.lit (.pointer none)):=by simp[Q1v]
theorem Q91{ts:List LFt}{n:Nat}(h:ts.length<=n):(Q1v ts n).length=n:=by simp[Q1v];omega
theorem Q5q{ts:List LFt}{n k:Nat}{t:LFt}(h:ts[k]?=some t):(Q1v ts n)[k]?=some (.ptr (.o t.id) 0):=by
 have hk:=(List.getElem?_eq_some_iff.1 h).1
 unfold Q1v
 rw[List.getElem?_append_left (by simpa using hk)]
 simp[h]
theorem Q90{ts:List LFt}{n:Nat}(h:ts.length < n)(t:LFt):(Q1v ts n).set ts.length (.ptr (.o t.id) 0)=Q1v (ts++[t]) n:=by
 unfold Q1v
 rw[List.set_append_right _ _ (by simp)]
 simp only[List.length_map,Nat.sub_self,List.map_append,List.map_cons,List.map_nil,List.append_assoc,List.length_append,List.length_singleton]
 congr 1
 rw[show n - ts.length=(n - (ts.length+1))+1 by omega,List.replicate_succ]
 rfl
theorem Q9b(p:Abs.Id->Prop)(hp:∀k,p (.o k))(ts:List LFt)(n:Nat):idsL p (Q1v ts n):=by
 refine Q5a ?_ (Q6c p _ _)
 induction ts with
 |nil=>trivial
 |cons t ts ih=>exact⟨hp _,ih⟩
@[simp] theorem ids_nodesF_l (k:Nat) (ts:List LFt) (n:Nat):idsL (inL k) (Q1v ts n):=Q9b _ (fun _=>trivial) ts n
@[simp] theorem Q6d (ts:List LFt) (n:Nat):idsL isO (Q1v ts n):=Q9b _ (fun _=>trivial) ts n
def kidsF (ts:List LFt)(ks:List Int):List LFt:=ks.map fun k=>ts.getD k.toNat default
theorem Qfk{ts:List LFt}{ks:List Int}{i:Nat}{k:Int}(h:ks[i]?=some k):kidsF ts (ks.take (i+1))=kidsF ts (ks.take i)++[ts.getD k.toNat default]:=by
 simp[kidsF,List.take_add_one,h]
theorem Qbt(ts:List LFt)(ks:List Int):(kidsF ts ks).length=ks.length:=by simp[kidsF]
def GrowFQ (e:List Ex)(ou:Outer)(r:FV)(ou':Outer):Prop:=∃t:LFt,r=.one (.ptr (.o t.id) 0)/\erFt t=grow e/\okFt t/\Owns ou' (obFt t)/\(keys (obFt t)).Nodup/\(∀k∈keys (obFt t),ou k=none)/\OuOk ou'/\∀j o,ou j=some o->ou' j=some o
theorem Q2q.appG{E:Env}{o:Oper}{fr:Fr}{σ:St}{t:TypeId}{ti tj:TI}{x y:Operand}{d:AC}{s k:Nat}{es news:List (List AC)}{oc:Option Nat}(hT:TabOk E.P E.T)
  (ho:o.op=.call { callee:=.builtin .append,args:=#[x,y],argTypes:=#[t,t] }) (ht:Tab.get t E.T=some ti) (hk:Nat.beq ti.kind 2=true) (hj:Tab.get ti.elem E.T=some tj) (hx:aEval E.Γ fr x=some (.one (oaC k s es oc))) (hy:aEval E.Γ fr y=some (.one d))
  (hg:σ.get (.l k)=some (oaO s es oc)) (hco:coO es oc) (hl:∀x∈es,x.length=s) (hsrc:Abs.Src d s news) (hne:news≠[]) (hs:Nat.beq tj.size s=true) (hbytes:(es.length+news.length) * tj.bytes<=140737488355328) (h63:es.length+news.length<=140737488355328):
  Q2q E o fr σ (fun v σ'=>∃cap σ2,(es++news).length<=cap/\v=.one (oaC σ.n s (es++news) (some cap))/\σ'=St.push σ2 (oaO s (es++news) (some cap))/\(σ2=σ∨σ2=σ.set (.l k) .dead)):=by
 cases oc with
 |none=>
  simp only[coO]at hco
  subst hco
  intro F w C tmps hi hf next Q hk3
  refine Q2q.appOwn hT ho ht hk hj hx hy (.nil s) hsrc hne hs hbytes h63 F w C tmps hi hf next Q fun u w' C' v σ' hP=>?_
  obtain⟨cap,h1,rfl,rfl⟩:=hP
  exact hk3 u w' C' _ _ ⟨cap,σ,h1,rfl,rfl,.inl rfl⟩
 |some cap0=>
  intro F w C tmps hi hf next Q hk3
  refine Q2q.appOwn hT ho ht hk hj hx hy (.own s cap0 es (.l k) hg hl hco) hsrc hne hs hbytes h63 F w C tmps hi hf next Q fun u w' C' v σ' hP=>?_
  obtain⟨cap,h1,rfl,rfl⟩:=hP
  exact hk3 u w' C' _ _ ⟨cap,_,h1,rfl,rfl,.inr rfl⟩
theorem Qej(l:List LFt):∀x∈kFt l,x.length=1:=fun x hx=>by
 obtain⟨t,_,rfl⟩:=List.mem_map.1 hx;rfl
theorem NewO.pair{ou:Outer}{k:Nat}{v w:AObj}(hk:∀m,k<=m->ou m=none)(hou:OuOk ou)(hv:v.ids isO)(hw:w.ids isO):NewO ou (ouAdd ou k [w,v]) [(k+1,v),(k,w)]:=by
 refine⟨fun p hp=>?_,fun j hj=>?_,fun m hm=>?_,Q2r hou fun q hq=>?_,by simp[keys]⟩
 ·simp only[List.mem_cons,List.not_mem_nil,or_false]at hp
  rcases hp with rfl|rfl
  ·exact Q0f 1
  ·exact Q0f 0
 ·simp[keys]at hj
  rcases hj with rfl|rfl <;> exact hk _ (by omega)
 ·simp[keys]at hm
  rcases Nat.lt_or_ge m k with h1|h1
  ·exact Q26 h1
  ·obtain⟨p,rfl⟩:∃p,m=k+p:=⟨m - k,by omega⟩
   rw[Q0f,hk _ h1]
   match p,hm with
   |0,hm=>simp at hm
   |1,hm=>simp at hm
   |p+2,hm=>simp
 ·simp only[List.mem_cons,List.not_mem_nil,or_false]at hq
  rcases hq with rfl|rfl
  ·exact hw
  ·exact hv
set_option maxHeartbeats 1000000 in
theorem Qi0(hΓ:∀g cs,(g,cs)∈Γ->idsL isO cs)(e:List Ex)(he:okE e)(hin:Q0h e)(hT:IsTree e)(hnB:noB e)(ou:Outer):AFn Tryd.prog Γ 35 [.one (.sl 5 (e.map cEx))] ou (GrowFQ e ou):=by
 have hel:=he.l
 refine AFn.walk 85 tabOk Tryd.func35 rfl (by kernel_rfl) rfl rfl fun hou=>?_
 refine zA ?_
 have hb:ti90.bytes * (e.map cEx).length<=281474976710656:=by simp;show 8 * _<=_;omega
 have hb2:(e.map cEx).length<=281474976710656:=by simp;omega
 refine zS (AStep.makeArr tabOk rfl rfl rfl rfl rfl rfl rfl rfl hb hb2) ?_
 refine zA ?_
 refine ACode.loopR hΓ (α:=Nat×List LFt×Outer) (fun c=>[(16,.one (int c.1)),(15,.one (int (e.map cEx).length)),(14,.one (.sl 5 (e.map cEx))),(3,.one (.arr (.l 0) 1 0 (e.map cEx).length (e.map cEx).length)),(0,.one (.sl 5 (e.map cEx)))])
  (fun c=>⟨1,[(0,.cells (Q1v c.2.1 (e.map cEx).length))],c.2.2⟩) (fun m c=>c.1<=e.length/\(LinkF (e.take c.1) c.2.1/\NewO ou c.2.2 (c.2.1.flatMap ownFt))/\m=e.length - c.1) (a0:=(0,[],ou)) (ρ:=id) ⟨by omega,⟨LinkF.nil,.nil hou⟩,rfl⟩
  (LessR.of rfl zFS (by simp) (LoSub.cons rfl (by rw[AObj.ren_pure _ _ (by simp)];show AObj.cells (List.replicate _ _)=AObj.cells (Q1v [] _);rw[Qff]) rfl (by simp) .nil) rfl rfl hou) fun m c hc=>?_
 obtain⟨j,lts,ov⟩:=c
 obtain⟨hjl,⟨hL,hN⟩,rfl⟩:=hc
 dsimp only at hjl hL hN
 have hov:=hN.ok
 refine zA ?_
 refine ACode.cond rfl (fun hb2=>?_) (fun hb2=>?_)
 ·have hlt:j < e.length:=by simpa using hb2
  obtain⟨x,hx⟩:=Q00 hlt
  have hxo:=he.x x (List.mem_of_getElem? hx)
  have hxk:=hxo.k
  have hxin:=hin j x hx
  obtain⟨hxb,hxa⟩:=hnB x (List.mem_of_getElem? hx)
  have hgl:lts.length=j:=by rw[hL.len];simp;omega
  refine zA ?_
  refine zS (zIA rfl rfl rfl (by omega) (Q05 hx)) ?_
  refine zA ?_
  have hcl:=Q2x (Γ:=Γ) x.binds hxo.b
  refine ACode.drawXH (va:=.one (.ptr (.l 2) 0)) (σ1:=(((St.mk 1 [(0,.cells (Q1v lts (e.map cEx).length))] ov).push (.cells (ti69.zero.map .lit))).set (.l 1) (.cells (cEx x))).push (.cells [int x.op,int x.n,.sl 1 (x.binds.map cI),.lit (.slice none 0 0),.lit (.slice none 0 0)]))
   tabOk 9 8 [(6,.one (.sl 1 (x.binds.map cI)))] follows (by kernel_rfl) rfl rfl rfl rfl rfl rfl rfl (HStep.auto tabOk rfl) ?_ ?_ ?_
  ·exact .call hΓ hcl hov (by simp) rfl rfl rfl rfl rfl rfl .nil
  ·exact .call hΓ hcl hov (by simp) rfl rfl rfl rfl rfl rfl .nil
  refine zA ?_
  refine ACode.ghost ?_
  refine ACode.loopR hΓ (α:=Nat×Option Nat) (fun c=>[(33,.one (int c.1)),(32,.one (int (x.kids.map cI).length)),(31,.one (.sl 1 (x.kids.map cI))),(6,.one (.ptr (.l 2) 0)),(5,.one (.ptr (.l 1) 0)),(4,.one (int j)),(16,.one (int j)),(15,.one (int (e.map cEx).length)),(14,.one (.sl 5 (e.map cEx))),(3,.one (.arr (.l 0) 1 0 (e.map cEx).length (e.map cEx).length)),(0,.one (.sl 5 (e.map cEx)))])
   (fun c=>⟨4,[(3,oaO 1 (kFt (kidsF lts (x.kids.take c.1))) c.2),(2,.cells [int x.op,int x.n,.sl 1 (x.binds.map cI),oaC 3 1 (kFt (kidsF lts (x.kids.take c.1))) c.2,.lit (.slice none 0 0)]),(1,.cells (cEx x)),(0,.cells (Q1v lts (e.map cEx).length))],ov⟩)
   (fun m c=>c.1<=x.kids.length/\coO (kFt (kidsF lts (x.kids.take c.1))) c.2/\m=x.kids.length - c.1) (a0:=(0,none)) (ρ:=id) ⟨by omega,rfl,rfl⟩ (LessR.of rfl zFS (by simp) ?_ rfl rfl hov) fun m c hi=>?_
  ·repeat' first|exact LoSub.nil|refine zlc ?_|refine zld ?_ ?_|rfl
   all_goals (simp[AObj.ren,renL,AC.ren,kidsF];first|done|exact⟨rfl,rfl⟩|rfl)
  obtain⟨i,oc⟩:=c
  obtain⟨hil,hco,rfl⟩:=hi
  dsimp only at hil hco
  refine zA ?_
  refine ACode.cond rfl (fun hb3=>?_) (fun hb3=>?_)
  ·have hlt2:i < x.kids.length:=by simpa using hb3
   obtain⟨k,hk⟩:=Q00 hlt2
   have hkb:=hxin k (List.mem_of_getElem? hk)
   obtain⟨k',rfl⟩:∃k':Nat,k=k':=⟨k.toNat,by omega⟩
   obtain⟨tk,htk⟩:=Q00 (l:=lts) (i:=k') (by omega)
   have htd:lts.getD (k':Int).toNat default=tk:=by rw[Int.toNat_natCast,List.getD_eq_getElem?_getD,htk];rfl
   have hks:=Qfk (ts:=lts) hk
   rw[htd]at hks
   have hkl:(kFt (kidsF lts (x.kids.take i))).length=i:=by simp[kFt,kidsF];omega
   refine zA ?_
   refine zS (zIA rfl rfl rfl (by omega) (Q05 hk)) ?_
   refine zA ?_
   refine ACode.drawR1 tabOk 11 10 [(7,.one (.ptr (.l 0) k')),(8,.one (.ptr (.o tk.id) 0))]
    (fun v σ => ∃ cap σ2, (kFt (kidsF lts (x.kids.take i)) ++ [[AC.ptr (.o tk.id) 0]]).length <= cap /\ v = .one (oaC 4 1 (kFt (kidsF lts (x.kids.take i)) ++ [[AC.ptr (.o tk.id) 0]]) (some cap)) /\ σ = St.push σ2 (oaO 1 (kFt (kidsF lts (x.kids.take i)) ++ [[AC.ptr (.o tk.id) 0]]) (some cap)) /\ (σ2 = ⟨4, [(3, oaO 1 (kFt (kidsF lts (x.kids.take i))) oc), (2, .cells [int x.op, int x.n, .sl 1 (x.binds.map cI), oaC 3 1 (kFt (kidsF lts (x.kids.take i))) oc, .lit (.slice none 0 0)]), (1, .cells (cEx x)), (0, .cells (Q1v lts (e.map cEx).length))], ov⟩ ∨ σ2 = St.set ⟨4, [(3, oaO 1 (kFt (kidsF lts (x.kids.take i))) oc), (2, .cells [int x.op, int x.n, .sl 1 (x.binds.map cI), oaC 3 1 (kFt (kidsF lts (x.kids.take i))) oc, .lit (.slice none 0 0)]), (1, .cells (cEx x)), (0, .cells (Q1v lts (e.map cEx).length))], ov⟩ (.l 3) .dead))
    follows (by kernel_rfl) rfl rfl (by kernel_rfl) (by kernel_rfl) rfl rfl rfl rfl ?_ ?_ ?_ ?_ ?_
   ·rintro v σ ⟨cp,σ2,_,_,rfl,rfl|rfl⟩ <;> rfl
   ·refine .step rfl (zHP (idxI tabOk rfl rfl rfl rfl rfl rfl rfl (by simp;omega))) ?_
    exact .step rfl (zHP (zLD rfl rfl rfl (Q5q htk))) .nil
   ·rintro v σ ⟨cp,σ2,_,_,rfl,rfl|rfl⟩
    all_goals
     refine .step rfl (zHP (idxI tabOk rfl rfl rfl rfl rfl rfl rfl (by simp;omega))) ?_
     exact .step rfl (zHP (zLD rfl rfl rfl (Q5q htk))) .nil
   ·exact .inl (.inr ⟨rfl,Q2q.appG tabOk rfl rfl rfl rfl rfl rfl rfl hco (Qej _) (.sl 1 [[AC.ptr (.o tk.id) 0]]) (by simp) rfl (by rw[hkl];show (i+1) * 8<=_;omega) (by rw[hkl];show i+1<=_;omega)⟩)
   ·rintro v σ ⟨cp,σ2,hcp,rfl,rfl,hσ2⟩
    have hrow:kFt (kidsF lts (x.kids.take i))++[[AC.ptr (.o tk.id) 0]]=kFt (kidsF lts (x.kids.take (i+1))):=by rw[hks,Qj0]
    rw[hrow]at hcp ⊢
    rcases hσ2 with rfl|rfl
    all_goals
     refine zM ?_
     refine cInv ⟨x.kids.length - (i+1),(i+1,some cp),fun k=>if k=3 then 4 else k,by omega,⟨by omega,hcp,rfl⟩,LessR.of rfl zFS (by simp) ?_ rfl rfl hov⟩
     repeat' first|exact LoSub.nil|refine zlc ?_|refine zld ?_ ?_|rfl
  have hlt2:i=x.kids.length:=by simp at hb3;omega
  subst hlt2
  rw[List.take_length]at hco ⊢
  refine zA ?_
  refine ACode.loopR hΓ (α:=Unit) (fun i=>[(54,.one (int 0)),(53,.one (int (x.alts.map cAlt).length)),(52,.one (.sl 2 (x.alts.map cAlt))),(6,.one (.ptr (.l 2) 0)),(4,.one (int j)),(16,.one (int j)),(15,.one (int (e.map cEx).length)),(14,.one (.sl 5 (e.map cEx))),(3,.one (.arr (.l 0) 1 0 (e.map cEx).length (e.map cEx).length)),(0,.one (.sl 5 (e.map cEx)))])
   (fun i=>⟨4,[(3,oaO 1 (kFt (kidsF lts x.kids)) oc),(2,.cells [int x.op,int x.n,.sl 1 (x.binds.map cI),oaC 3 1 (kFt (kidsF lts x.kids)) oc,.lit (.slice none 0 0)]),(0,.cells (Q1v lts (e.map cEx).length))],ov⟩)
   (fun m i=>m=0) (a0:=()) (ρ:=id) rfl (LessR.of rfl zFS (by simp) ?_ rfl rfl hov) fun m i hi=>?_
  ·repeat' first|exact LoSub.nil|refine zlc ?_|refine zld ?_ ?_|rfl
  refine zA ?_
  refine ACode.cond rfl (fun hb3=>?_) (fun hb3=>?_)
  ·exfalso
   rw[hxa]at hb3
   simp at hb3
  refine zA ?_
  refine zS (idxI tabOk rfl rfl rfl rfl rfl rfl rfl (by simp;omega)) ?_
  cases oc with
  |none=>
   have hk0:x.kids=[]:=by
    have h1:kFt (kidsF lts x.kids)=[]:=hco
    have h2:=congrArg List.length h1
    rw[Q4t,Qbt]at h2
    exact List.length_eq_zero_iff.1 h2
   refine AOps.wkObj (.l 2) rfl (cs':=[int x.op,int x.n,.sl 1 [],.sl 1 [],.sl 2 []]) (fun w C xs h=>(show WkL _ _ from .cons (.refl _) (.cons (.refl _) (.cons (.ofEq (by rw[hxb];rfl)) (.cons (.nilS 1) (.cons (.nilS 2) .nil))))) w C xs h) ?_
   have hθ:∀(k:Nat) (i:Abs.Id),isO i->toOs [2] k i=i:=fun k i hi=>by cases i with|l q=>exact hi.elim|o q=>rfl
   refine AOps.cedes [2] rfl (by decide) hov fun k hk=>⟨[(77,.one (.ptr (.l 0) j)),(76,.one (.ptr (.o k) 0)),(16,.one (int j)),(15,.one (int (e.map cEx).length)),(14,.one (.sl 5 (e.map cEx))),(3,.one (.arr (.l 0) 1 0 (e.map cEx).length (e.map cEx).length)),(0,.one (.sl 5 (e.map cEx)))],
    [(0,.cells (Q1v lts (e.map cEx).length))],[.cells [int x.op,int x.n,.sl 1 [],.sl 1 [],.sl 2 []]],?_,?_,?_,?_⟩
   ·exact .cons rfl rfl (.cons rfl rfl (.cons rfl rfl (.cons rfl rfl (.cons rfl (FV.sub_f (hθ k) _ (by simp)) (.cons rfl rfl (.cons rfl (FV.sub_f (hθ k) _ (by simp)) .nil))))))
   ·exact .cons rfl rfl (AObj.sub_f (hθ k) _ (Q6d _ _)) .nil
   ·exact .cons rfl rfl .nil
   have hN1:=NewO.add hk hov (o:=.cells [int x.op,int x.n,.sl 1 [],.sl 1 [],.sl 2 []]) (by simp)
   have hN2:=hN.trans hN1
   obtain⟨t,ht⟩:∃t:LFt,t=.mk k x.op x.n none (kidsF lts x.kids):=⟨_,rfl⟩
   have hto:lts.flatMap ownFt++[(k,.cells [int x.op,int x.n,.sl 1 [],.sl 1 [],.sl 2 []])]=(lts++[t]).flatMap ownFt:=by
    rw[List.flatMap_append,ht,hk0]
    simp[ownFt,nFt,koFt,kcFt,kidsF,kFt]
   rw[hto]at hN2
   have hL2:=hL.snoc (Q4k (by rw[List.take_append_drop];exact hin)) (x:=x) (fun q hq=>by have:=hxin q hq;simp;omega) (id:=k) (kb:=none) (fun _=>hk0) (fun a c h=>by cases h)
   rw[←Q0j hx,show LFt.mk k x.op x.n none (x.kids.map fun q=>lts.getD q.toNat default)=t by rw[ht];rfl]at hL2
   refine AOps.storeOwn tabOk rfl rfl rfl rfl rfl rfl rfl rfl (by rw[Q91 (by simp[hgl];omega)];simp;omega) ?_
   have hst:=Q90 (ts:=lts) (n:=(e.map cEx).length) (by simp[hgl];omega) t
   rw[hgl,show t.id=k by rw[ht];rfl]at hst
   rw[hst]
   refine zM ?_
   exact cInv ⟨e.length - (j+1),(j+1,lts++[t],_),id,by omega,⟨by omega,⟨hL2,hN2⟩,rfl⟩,LessR.of rfl zFS (by simp) zLO rfl rfl hN2.ok⟩
  |some cap=>
   have hcap:x.kids.length<=cap:=by
    have h1:(kFt (kidsF lts x.kids)).length<=cap:=hco
    rw[Q4t,Qbt]at h1
    exact h1
   refine AOps.wkObj (.l 2) rfl (cs':=[int x.op,int x.n,.sl 1 [],.arr (.l 3) 1 0 (kFt (kidsF lts x.kids)).length cap,.sl 2 []]) (fun w C xs h=>(show WkL _ _ from .cons (.refl _) (.cons (.refl _) (.cons (.ofEq (by rw[hxb];rfl)) (.cons (.refl _) (.cons (.nilS 2) .nil))))) w C xs h) ?_
   have hθ:∀(k:Nat) (i:Abs.Id),isO i->toOs [2,3] k i=i:=fun k i hi=>by cases i with|l q=>exact hi.elim|o q=>rfl
   refine AOps.cedes [2,3] rfl (by decide) hov fun k hk=>⟨[(77,.one (.ptr (.l 0) j)),(76,.one (.ptr (.o k) 0)),(16,.one (int j)),(15,.one (int (e.map cEx).length)),(14,.one (.sl 5 (e.map cEx))),(3,.one (.arr (.l 0) 1 0 (e.map cEx).length (e.map cEx).length)),(0,.one (.sl 5 (e.map cEx)))],
    [(0,.cells (Q1v lts (e.map cEx).length))],[.cells [int x.op,int x.n,.sl 1 [],.arr (.o (k+1)) 1 0 (kFt (kidsF lts x.kids)).length cap,.sl 2 []],.cells (vec 1 (kFt (kidsF lts x.kids)) cap)],?_,?_,?_,?_⟩
   ·exact .cons rfl rfl (.cons rfl rfl (.cons rfl rfl (.cons rfl rfl (.cons rfl (FV.sub_f (hθ k) _ (by simp)) (.cons rfl rfl (.cons rfl (FV.sub_f (hθ k) _ (by simp)) .nil))))))
   ·exact .cons rfl rfl (AObj.sub_f (hθ k) _ (Q6d _ _)) .nil
   ·exact .cons rfl rfl (.cons rfl (AObj.sub_f (hθ k) (.cells (vec 1 (kFt (kidsF lts x.kids)) cap)) (Q2g (Q7q _))) .nil)
   have hN1:=NewO.pair (w:=.cells [int x.op,int x.n,.sl 1 [],.arr (.o (k+1)) 1 0 (kFt (kidsF lts x.kids)).length cap,.sl 2 []]) (v:=.cells (vec 1 (kFt (kidsF lts x.kids)) cap)) hk hov (Q2g (Q7q _)) (by simp)
   have hN2:=hN.trans hN1
   obtain⟨t,ht⟩:∃t:LFt,t=.mk k x.op x.n (some (k+1,cap)) (kidsF lts x.kids):=⟨_,rfl⟩
   have hto:lts.flatMap ownFt++[(k+1,.cells (vec 1 (kFt (kidsF lts x.kids)) cap)),(k,.cells [int x.op,int x.n,.sl 1 [],.arr (.o (k+1)) 1 0 (kFt (kidsF lts x.kids)).length cap,.sl 2 []])]=(lts++[t]).flatMap ownFt:=by
    rw[List.flatMap_append,ht]
    simp[ownFt,nFt,koFt,kcFt]
   rw[hto]at hN2
   have hL2:=hL.snoc (Q4k (by rw[List.take_append_drop];exact hin)) (x:=x) (fun q hq=>by have:=hxin q hq;simp;omega) (id:=k) (kb:=(some (k+1,cap))) (fun h=>by cases h) (fun a c h=>by cases h;exact hcap)
   rw[←Q0j hx,show LFt.mk k x.op x.n (some (k+1,cap)) (x.kids.map fun q=>lts.getD q.toNat default)=t by rw[ht];rfl]at hL2
   refine AOps.storeOwn tabOk rfl rfl rfl rfl rfl rfl rfl rfl (by rw[Q91 (by simp[hgl];omega)];simp;omega) ?_
   have hst:=Q90 (ts:=lts) (n:=(e.map cEx).length) (by simp[hgl];omega) t
   rw[hgl,show t.id=k by rw[ht];rfl]at hst
   rw[hst]
   refine zM ?_
   exact cInv ⟨e.length - (j+1),(j+1,lts++[t],_),id,by omega,⟨by omega,⟨hL2,hN2⟩,rfl⟩,LessR.of rfl zFS (by simp) zLO rfl rfl hN2.ok⟩
 ·have hlt:j=e.length:=by simp at hb2;omega
  subst hlt
  rw[List.take_length]at hL
  obtain⟨N,hNe⟩:∃N,e.length=N+1:=⟨e.length - 1,by have:=List.length_pos_iff.2 hT.ne;omega⟩
  obtain⟨t,ht⟩:=Q00 (l:=lts) (i:=N) (by rw[hL.len];omega)
  have hnt:e.length - 1=N:=by omega
  refine zM ?_
  refine AOps.wk 82 rfl (y:=.one (int (N:Nat))) (.ofEq (by congr 3;simp;omega)) ?_
  refine zS (idxI tabOk rfl rfl rfl rfl rfl rfl rfl (by simp;omega)) ?_
  refine zS (zLD rfl rfl rfl (Q5q ht)) ?_
  refine zA ?_
  have hown:=hL.own hin _ N t (Nat.lt_succ_self _) ht
  refine AFn.fin' rfl (WkF.ofEq rfl) (by simp[AC.ids]) hov ⟨t,rfl,?_,?_,?_,?_,?_,hov,?_⟩
  ·rw[hL.er hin hnB _ N t (Nat.lt_succ_self _) ht]
   unfold grow Q0t;rw[hnt]
  ·exact hL.ok hin he _ N t (Nat.lt_succ_self _) ht
  ·exact fun p hp=>hN.own p (hown p hp)
  ·exact hL.nodup hT hnB hN.nd (by rw[hnt];exact ht)
  ·intro k hk
   obtain⟨p,hp,rfl⟩:=List.mem_map.1 hk
   exact hN.new p.1 (List.mem_map_of_mem (hown p hp))
  ·intro m o hm
   show ov m=some o
   rw[hN.old m fun hmk=>by have:=hN.new m hmk;rw[hm]at this;cases this]
   exact hm
end Go.Proofs.YthboaankaaeemaaDoor
namespace Go.CoreX
mutual
def nobT:Tr->Prop
 |.mk o _ b ks a=>o≠9/\b=[]/\a=[]/\ks.length<=1048576/\nobTs ks
def nobTs:List Tr->Prop
 |[]=>True
 |t::l=>nobT t/\nobTs l
end
theorem Qbn:∀{l:List Tr},nobTs l->∀{t:Tr},t∈l->nobT t
 |_::l,h,t,ht=>by
  rcases List.mem_cons.1 ht with rfl|ht
  ·exact h.1
  ·exact Qbn h.2 ht
end Go.CoreX
namespace Go.Proofs.YthboaankaaeemaaDoor
open Go Go.Abs Go.CoreX
variable {Γ:List (Nat×List AC)}
theorem Qhe(hΓ:∀g cs,(g,cs)∈Γ->idsL isO cs)(ou:Outer)(kf kn:Nat):AFn Tryd.prog Γ 68 [.one (.sl 1 []),.one (.ptr (.o kf) 0),.one (.ptr (.o kn) 0)] ou (fun r ou'=>r=.tup []/\ou'=ou):=by
 refine AFn.walk 23 tabOk Tryd.func68 rfl (by kernel_rfl) rfl rfl fun hou=>?_
 refine zA ?_
 refine ACode.loopR hΓ (α:=Unit) (fun _=>[(7,.one (int 0)),(6,.one (int 0))]) (fun _=>⟨0,[],ou⟩) (fun m _=>m=0) (a0:=()) (ρ:=id) rfl (LessR.of rfl zFS (by simp) zLO rfl rfl hou) fun m c hc=>?_
 refine zA ?_
 exact AFn.fin' rfl (WkF.ofEq rfl) (by simp[FV.ids,idsF]) hou ⟨rfl,rfl⟩
structure RpS (ou:Outer)(kn km kf kw:Nat)(f:Int):Prop where
 n:ou kn=some (.cells [.mp (.o km)])
 m:ou km=some (.map 0 (encI eN []))
 f:ou kf=some (.cells [int f])
 w:ou kw=some (.cells [fnR kn kf kw])
def RpOk (Γ:List (Nat×List AC))(T:Tr):Prop:=∀(ou:Outer)(kn km kf kw:Nat)(f:Int),RpS ou kn km kf kw f->OuOk ou->AFn Tryd.prog Γ 67 [.one (.box (cTr T)),.one (.ptr (.o kn) 0),.one (.ptr (.o kf) 0),.one (.ptr (.o kw) 0)] ou (fun r ou'=>r=.tup []/\ou'=ou)
theorem Q76(hΓ:∀g cs,(g,cs)∈Γ->idsL isO cs):∀T:Tr,nobT T->RpOk Γ T
 |.mk o n b ks a,h=>by
  obtain⟨h9,rfl,rfl,hkl,hks⟩:=h
  have ih:∀t∈ks,RpOk Γ t:=fun t ht=>Q76 hΓ t (Qbn hks ht)
  intro ou kn km kf kw f hR hou0
  obtain⟨hn,hm,hf,hw⟩:=hR
  refine AFn.walk 76 tabOk Tryd.func67 rfl (by kernel_rfl) rfl rfl fun hou=>?_
  refine zA ?_
  refine ACode.drawX tabOk 10 [(0,.one (.mp (.o km))),(4,.one (int n)),(5,.tup [.one (int 0),.one (.lit (.bool false))])] follows (by kernel_rfl) rfl rfl rfl rfl ?_ ?_
  ·refine .step rfl (zHP (zLD rfl rfl hn rfl)) (.step rfl (HStep.auto tabOk rfl) ?_)
   exact .step rfl (zHP (AStep.lookI eN (cm:=true) (v:=.one (int 0)) (f:=fun _=>none) rfl Tryd.underlying98 Tryd.underlying3 rfl hm rfl (by kernel_rfl) zeroN IMOk.nil rfl)) .nil
  refine zA ?_
  refine ACode.cond rfl (fun hb=>?_) (fun hb=>?_)
  case refine_2=>simp at hb;exact absurd hb h9
  refine zA ?_
  refine AOps.callK hΓ (Qhe hΓ ou kf kn) rfl rfl rfl rfl rfl rfl rfl hou (by simp) ?_
  refine zA ?_
  refine ACode.loopR hΓ (α:=Unit) (fun _=>[(49,.one (int 0)),(48,.one (int 0)),(0,.one (.box (cTr (.mk o n [] ks [])))),(3,.one (.ptr (.o kw) 0)),(2,.one (.ptr (.o kf) 0)),(1,.one (.ptr (.o kn) 0))]) (fun _=>⟨0,[],ou⟩) (fun m _=>m=0) (a0:=()) (ρ:=id) rfl (LessR.of rfl zFS (by simp) zLO rfl rfl hou) fun m c hc=>?_
  refine zA ?_
  refine ACode.loopR hΓ (α:=Nat) (fun i=>[(68,.one (int i)),(67,.one (int (Q0u ks).length)),(66,.one (.sl 1 (Q0u ks))),(0,.one (.box (cTr (.mk o n [] ks [])))),(3,.one (.ptr (.o kw) 0)),(2,.one (.ptr (.o kf) 0)),(1,.one (.ptr (.o kn) 0))]) (fun _=>⟨0,[],ou⟩) (fun m i=>i<=ks.length/\m=ks.length - i) (a0:=0) (ρ:=id) ⟨by omega,rfl⟩ (LessR.of rfl zFS (by simp) zLO rfl rfl hou) fun m i hc=>?_
  obtain⟨hil,rfl⟩:=hc
  refine zA ?_
  refine ACode.cond rfl (fun hb=>?_) (fun hb=>?_)
  ·have hlt:i < ks.length:=by simpa using hb
   obtain⟨t,ht⟩:=Q00 hlt
   refine zA ?_
   refine zS (zIA rfl rfl rfl (by omega) (Q22 ht)) ?_
   repeat' first|refine zN ?_|((with_reducible refine oj ?_);first|refine zix ?_|refine zow rfl rfl hw ?_)
   refine AOps.callK hΓ (ih t (List.mem_of_getElem? ht) ou kn km kf kw f ⟨hn,hm,hf,hw⟩ hou0) rfl rfl rfl rfl rfl rfl rfl hou (by simp[FV.ids,idsF,AC.ids]) ?_
   refine zM ?_
   exact cInv ⟨ks.length - (i+1),i+1,id,by omega,⟨by omega,rfl⟩,LessR.of rfl zFS (by simp) zLO rfl rfl hou⟩
  ·refine zA ?_
   exact AFn.fin' rfl (WkF.ofEq rfl) (by simp[FV.ids,idsF]) hou ⟨rfl,rfl⟩
theorem Qfu(hΓ:∀g cs,(g,cs)∈Γ->idsL isO cs)(T:Tr)(hT:nobT T)(f:Int):APure Tryd.prog Γ 36 [.one (.box (cTr T)),.one (int f)] (.one (int f)):=by
 intro ou
 refine AFn.walk 13 tabOk Tryd.func36 rfl (by kernel_rfl) rfl rfl fun hou=>?_
 refine zA ?_
 refine zS (AStep.makeMap rfl) ?_
 refine zA ?_
 refine AOps.cedes [2,1,0,3] rfl (by decide) hou fun k hk=>⟨[(9,.one (fnR k (k+2) (k+3))),(10,.one (.box (cTr T))),(3,.one (.ptr (.o (k+2)) 0))],[],[.cells [.mp (.o (k+1))],.map 0 (encI eN []),.cells [int f],.cells [fnR k (k+2) (k+3)]],?_,.nil,?_,?_⟩
 ·exact .cons rfl rfl (.cons rfl (FV.sub_f (fun i hi=>by cases i with|l q=>exact hi.elim|o q=>rfl) _ (by simp)) (.cons rfl rfl .nil))
 ·exact .cons rfl rfl (.cons rfl rfl (.cons rfl rfl (.cons rfl rfl .nil)))
 have hk':∀m,k<=m->ou m=none:=hk
 obtain⟨o1',ho1'⟩:∃o1':Outer,o1'=ouAdd ou k [.cells [.mp (.o (k+1))],.map 0 (encI eN []),.cells [int f],.cells [fnR k (k+2) (k+3)]]:=⟨_,rfl⟩
 have g0:o1' k=some (.cells [.mp (.o (k+1))]):=by rw[ho1'];exact Q0f 0
 have g1:o1' (k+1)=some (.map 0 (encI eN [])):=by rw[ho1'];exact Q0f 1
 have g2:o1' (k+2)=some (.cells [int f]):=by rw[ho1'];exact Q0f 2
 have g3:o1' (k+3)=some (.cells [fnR k (k+2) (k+3)]):=by rw[ho1'];exact Q0f 3
 have g5:OuOk o1':=by
  rw[ho1']
  refine Q2r hou fun o ho=>?_
  simp only[List.mem_cons,List.not_mem_nil,or_false]at ho
  rcases ho with rfl|rfl|rfl|rfl
  ·simp
  ·exact Q3b _ _ _
  ·simp
  ·simp[fnR]
 show AOps _ _ _ _ _ ⟨4,[],ouAdd ou k [.cells [.mp (.o (k+1))],.map 0 (encI eN []),.cells [int f],.cells [fnR k (k+2) (k+3)]]⟩
 rw[←ho1']
 refine AOps.callK hΓ (Q76 hΓ T hT o1' k (k+1) (k+2) (k+3) f ⟨g0,g1,g2,g3⟩ g5) rfl rfl rfl rfl rfl rfl rfl g5 (by simp[FV.ids,idsF,AC.ids,isO]) ?_
 refine zA ?_
 refine zS (zLD rfl rfl g2 rfl) ?_
 refine AOps.lessO ⟨4,[],ou⟩ rfl (fun i o hi=>?_) ?_
 ·cases i with
  |l m=>cases hi
  |o m=>
   have hm:ou m=some o:=hi
   have:m < k:=Q1y hk' hm
   show o1' m=some o
   rw[ho1',Q26 this];exact hm
 refine zA ?_
 exact APure.fin rfl (.refl _) (by simp) hou rfl
theorem ownsFt{ou:Outer}{i:Nat}{o n:Int}{kb:Nb}{k:List LFt}(h:Owns ou (obFt (.mk i o n kb k))):ou i=some (nFt o n kb (kFt k))/\Owns ou (koFt kb (kFt k))/\Owns ou (obFts k):=
 ⟨h (i,nFt o n kb (kFt k)) (by rw[obFt];exact List.mem_cons_self),fun p hp=>h p (by rw[obFt];exact List.mem_cons_of_mem _ (List.mem_append_left _ hp)),fun p hp=>h p (by rw[obFt];exact List.mem_cons_of_mem _ (List.mem_append_right _ hp))⟩
theorem Qgt(i:Nat)(o n:Int)(kb:Nb)(k:List LFt):keys (obFt (.mk i o n kb k))=i::(keys (koFt kb (kFt k))++keys (obFts k)):=by simp[obFt,keys]
mutual
theorem Qhd{Γ:List (Nat×List AC)}{F:Nat->Prop}{w:World}{C C':Ctx}{σ:St}(hi:Inv Γ F w C σ)(hc:Chg isO w C w C'):∀t:LFt,okFt t->Owns σ.ou (obFt t)->(∀k∈keys (obFt t),∀a:Addr,a.block=C.blk (.o k)->C'.prot a)->RL w C' (cTr (erFt t)) ⟨C.blk (.o t.id),0,none⟩
 |.mk i o n kb k,hok,ho,hp=>by
  obtain⟨ho1,ho2,ho3⟩:=ownsFt ho
  rw[Qgt]at hp
  have hg:σ.get (.o i)=some (nFt o n kb (kFt k)):=ho1
  obtain⟨hok1,zs,T,b1,b2,b3,b4⟩:=hi.obj _ _ hg
  have hpk:∀k'∈keys (obFts k),∀a:Addr,a.block=C.blk (.o k')->C'.prot a:=fun k' hk=>hp k' (by simp[hk])
  simp only[RV,R]at b3
  obtain⟨v1,_,rfl,⟨rfl,_⟩,v2,_,rfl,⟨rfl,_⟩,v3,_,rfl,⟨a3,c3,rfl,l3,h3⟩,v4,_,rfl,h4,v5,_,rfl,⟨a5,c5,rfl,l5,h5⟩,rfl⟩:=b3
  have hk4:R w C' (.sl 1 (Q0u (erFts k))) v4:=by
   cases kb with
   |none=>
    have hk0:k=[]:=hok.1 rfl
    subst hk0
    simp only[kcFt,kFt,List.map_nil,R]at h4
    obtain⟨a4,c4,rfl,l4,_⟩:=h4
    exact⟨a4,c4,rfl,l4,.inl rfl⟩
   |some x=>
    obtain⟨a,cap⟩:=x
    simp only[kcFt,R,Nat.zero_mul]at h4
    obtain⟨hka,rfl,hcap⟩:=h4
    have hga:σ.get (.o a)=some (.cells (vec 1 (kFt k) cap)):=ho2 (a,.cells (vec 1 (kFt k) cap)) (by simp[koFt])
    obtain⟨_,ys,T2,d1,d2,d3,d4⟩:=hi.obj _ _ hga
    have hlen:(Q0u (erFts k)).length=(kFt k).length:=by simp[kFt,Q40]
    refine⟨some ⟨C.blk (.o a),0,none⟩,cap,by rw[hlen],by rw[hlen];exact hcap,.inr ⟨_,rfl,rfl,?_⟩⟩
    have hfl:=Q3d (Qej k)
    have hl2:∀x∈Q0u (erFts k),x.length=1:=fun x hx=>by
     rw[Q34]at hx
     obtain⟨t,_,rfl⟩:=List.mem_map.1 hx;rfl
    have hyl:=RV.length d3
    have hv:RV w C' (Q0u (erFts k)).flatten (ys.take ((kFt k).length * 1)):=by
     refine Qes hi hc k hok.2.2.2 ho3 hpk _ ?_
     have:=d3.take ((kFt k).length * 1)
     rwa [vec,List.take_append_of_le_length (by omega),List.take_of_length_le (by omega)]at this
    refine RS.ofVals 0 hl2 hv fun j v hj=>⟨?_,hp a (by simp[koFt,keys]) _ rfl⟩
    have h2:j < (kFt k).length * 1:=by have:=(List.getElem?_eq_some_iff.1 hj).1;simp at this ⊢;omega
    rw[List.getElem?_take_of_lt h2]at hj
    rw[Nat.zero_add,cell_of_row _ _ _ _ _ _ d1]
    simpa using hj
  have hrv:RV w C' (cTr (erFt (.mk i o n kb k))) [.int .i64 o,.int .i64 n,.slice a3 ([]:List (List AC)).length c3,v4,.slice a5 ([]:List (List AC)).length c5]:=by
   simp only[cTr,erFt,Tr.op_mk,Tr.n_mk,Tr.binds_mk,Tr.kids_mk,Tr.alts_mk,RV]
   refine⟨_,_,rfl,by simp[R,Value.oneCell'],_,_,rfl,by simp[R,Value.oneCell'],_,_,rfl,⟨a3,c3,rfl,l3,.inl rfl⟩,_,_,rfl,hk4,_,_,rfl,⟨a5,c5,rfl,l5,.inl rfl⟩,rfl⟩
  refine RL.of_new 0 hrv (fun j v hj=>?_) (fun ad ha=>?_)
  ·rw[Nat.zero_add]
   show w.cell? ⟨C.blk (.o i),j,none⟩=some v
   rw[cell_of_row _ _ _ _ _ _ b1]
   simpa using hj
  ·exact hp i (by simp[keys]) _ ha
theorem Qes{Γ:List (Nat×List AC)}{F:Nat->Prop}{w:World}{C C':Ctx}{σ:St}(hi:Inv Γ F w C σ)(hc:Chg isO w C w C'):∀l:List LFt,okFts l->Owns σ.ou (obFts l)->(∀k∈keys (obFts l),∀a:Addr,a.block=C.blk (.o k)->C'.prot a)->∀vs,RV w C (kFt l).flatten vs->RV w C' (Q0u (erFts l)).flatten vs
 |[],_,_,_,vs,hr=>by simp only[erFts,Q0u,kFt,List.map_nil,List.flatten_nil,RV]at hr ⊢;exact hr
 |t::l,hok,ho,hp,vs,hr=>by
  have e:obFts (t::l)=obFt t++obFts l:=rfl
  rw[e]at ho hp
  obtain⟨ho1,ho2⟩:=Owns.app.1 ho
  have e1:(kFt (t::l)).flatten=.ptr (.o t.id) 0::(kFt l).flatten:=rfl
  rw[e1]at hr
  simp only[RV,R]at hr
  obtain⟨u,us,rfl,⟨_,rfl⟩,hus⟩:=hr
  have e2:(Q0u (erFts (t::l))).flatten=.box (encTr (erFt t))::(Q0u (erFts l)).flatten:=rfl
  rw[e2]
  simp only[RV,R]
  refine⟨_,_,rfl,⟨_,rfl,rfl,?_⟩,Qes hi hc l hok.2 ho2 (fun k hk=>hp k (by simp[keys]at hk ⊢;exact .inr hk)) _ hus⟩
  rw[Qau]
  exact Qhd hi hc t hok.1 ho1 fun k hk=>hp k (by simp[keys]at hk ⊢;exact .inl hk)
end
mutual
theorem Q8x:∀t:LFt,∀p∈obFt t,∃cs,p.2=.cells cs
 |.mk i o n kb k,p,hp=>by
  simp only[obFt,List.mem_cons,List.mem_append]at hp
  rcases hp with rfl|hp|hp
  ·exact⟨_,rfl⟩
  ·cases kb with
   |none=>simp[koFt]at hp
   |some x=>simp[koFt]at hp;subst hp;exact⟨_,rfl⟩
  ·exact Q7f k p hp
theorem Q7f:∀l:List LFt,∀p∈obFts l,∃cs,p.2=.cells cs
 |[],p,hp=>by simp[obFts]at hp
 |t::l,p,hp=>by
  simp only[obFts,List.mem_append]at hp
  rcases hp with hp|hp
  ·exact Q8x t p hp
  ·exact Q7f l p hp
end
theorem LendF.ft{σ:St}{t:LFt}(hok:okFt t)(h:Owns σ.ou (obFt t)):LendF σ (.one (.ptr (.o t.id) 0)) (.one (.box (cTr (erFt t)))):=by
 intro Γ F w C v hi hr
 simp only[RF,R]at hr
 refine⟨_,hr.2,rfl,Qhd hi hi.stillChg t hok h fun k hk a ha=>?_⟩
 obtain⟨p,hp,rfl⟩:=List.mem_map.1 hk
 obtain⟨cs,hcs⟩:=Q8x t p hp
 show a.block < w.heap.size
 rw[ha]
 exact (AObj.block_lt (hi.obj (.o p.1) p.2 (h p hp)).2 (by rw[hcs];rfl)).2
theorem Qip{t s:LTr}(h:s∈t.kids){p:Nat×AObj}(hp:p∈objs s):p∈objss t.kids:=by
 rw[Q2s];exact List.mem_flatMap.2 ⟨s,h,hp⟩
theorem of_keys{l:List (Nat×AObj)}{k:Nat}(h:k∈keys l):∃o,(k,o)∈l:=by
 obtain⟨⟨j,o⟩,h1,h2⟩:=List.mem_map.1 h
 simp at h2;subst h2
 exact⟨o,h1⟩
theorem er_kids(t:LTr):(erT t).kids=t.kids.map erT:=by cases t;simp[erT,LTr.kids,Q2i]
theorem er_kid{t s:LTr}(h:s∈t.kids):erT s∈(erT t).kids:=by rw[er_kids];exact List.mem_map_of_mem h
theorem Qik{ou:Outer}{t s:LTr}(h:Owns ou (objs t))(hs:s∈t.kids):Owns ou (objs s):=fun p hp=>h p ((Qe8 t p).2 (.inr (Qip hs hp)))
theorem Qgv(l:List LTr):(kC l).length=l.length:=by simp[kC]
def plainB (nb:Nb)(l:List Int):Prop:=nb=none
mutual
def Q1i:LTr->Prop
 |.mk i o n nb b ks a=>nb=none/\(∀x∈a,x.nb=none)/\Q5n ks
def Q5n:List LTr->Prop
 |[]=>True
 |t::l=>Q1i t/\Q5n l
end
theorem Q0s:∀{l:List LTr},Q5n l↔∀t∈l,Q1i t
 |[]=>by simp[Q5n]
 |t::l=>by simp[Q5n,Q0s (l:=l)]
theorem Qgh{t s:LTr}(h:Q1i t)(hs:s∈t.kids):Q1i s:=by
 cases t with
 |mk i o n nb b ks a=>exact Q0s.1 h.2.2 s hs
theorem LinkL.plain{e:List Ex}{lts:List LTr}(h:LinkL e lts plainB)(hk:Q0h e):∀(n i:Nat)(t:LTr),i < n->lts[i]?=some t->Q1i t
 |0,i,t,hi,_=>by omega
 |n+1,i,t,hi,ht=>by
  have hil:i < e.length:=by rw[←h.len];exact (List.getElem?_eq_some_iff.1 ht).1
  obtain⟨x,hx⟩:=Q00 hil
  obtain⟨id,nb,a,h1,h2,h3,h4⟩:=h.at_ i x hx
  rw[ht]at h1
  cases h1
  refine⟨h3,h4,Q0s.2 fun s hs=>?_⟩
  obtain⟨q,hq,rfl⟩:=List.mem_map.1 hs
  have hq':=hk i x hx q hq
  obtain⟨t',ht'⟩:=Q00 (l:=lts) (i:=q.toNat) (by rw[h.len];omega)
  rw[h.getD ht']
  exact h.plain hk n q.toNat t' (by omega) ht'
theorem Q8u:∀{a:List LAlt},(∀x∈a,x.nb=none)->a.map lAlt=(a.map LAlt.er).map cAlt
 |[],_=>rfl
 |x::a,h=>by
  have h1:=h x (by simp)
  have h2:=Q8u fun y hy=>h y (List.mem_cons_of_mem x hy)
  simp only[List.map_cons,h2]
  congr 1
  simp only[lAlt,h1]
  rfl
def Qhz (Γ:List (Nat×List AC))(t:LTr):Prop:=∀(ou:Outer)(kw ko kt:Nat)(out:List Ex),OuOk ou->Owns ou (objs t)->ou kw=some (.cells [fnW kw ko])->ou ko=none->ou kt=none->ko≠kt->(listT out (erT t)).length<=1048576->
 AFn Tryd.prog Γ 69 [.one (.ptr (.o t.id) 0),.one (.ptr (.o kw) 0),.one (.ptr (.o ko) 0)] (ouS ou ko kt (out.map cEx)) (fun r ou'=>r=.one (int (((listT out (erT t)).length:Int) - 1))/\∃kt',ou kt'=none/\ko≠kt'/\ou'=ouS ou ko kt' ((listT out (erT t)).map cEx))
set_option maxHeartbeats 1000000 in
theorem Qec(hΓ:∀g cs,(g,cs)∈Γ->idsL isO cs):∀t:LTr,okT (erT t)->Q1i t->Qhz Γ t
 |.mk i o n nb b lks a,hok,hpl=>by
  have ih:∀t∈lks,Qhz Γ t:=fun t ht=>Qec hΓ t (Qab hok (er_kid (t:=.mk i o n nb b lks a) (by simpa[LTr.kids]using ht))) (Qgh hpl (by simpa[LTr.kids]using ht))
  obtain⟨hb,hk,ha,⟨hab,_⟩,hks⟩:=hok
  obtain⟨rfl,hpa,_⟩:=hpl
  intro ou kw ko kt out hou0 hOw hw ho ht hne hsz
  have hown:∀t∈lks,Owns ou (objs t):=fun t ht=>Qik hOw (by simpa[LTr.kids]using ht)
  have hi0:ou i=some (.cells (lC (.mk i o n none b lks a))):=Q32 hOw
  simp only[lC,bC,Q8u hpa]at hi0
  have hi:∀kt es,ou kt=none->ouS ou ko kt es i=some (.cells [int o,int n,.sl 1 (b.map cI),.sl 1 (kC lks),.sl 2 ((a.map LAlt.er).map cAlt)]):=fun kt es hkt=>(ouS_w (fun e=>by rw[e,ho]at hi0;cases hi0) (fun e=>by rw[e,hkt]at hi0;cases hi0) es).trans hi0
  have hkl:(kC lks).length=lks.length:=Qgv lks
  obtain⟨ks,hkse⟩:∃ks,ks=erTs lks:=⟨_,rfl⟩
  have hkn:ks.length=lks.length:=by rw[hkse,Q2i,List.length_map]
  have hkg:∀{j:Nat}{s:LTr},lks[j]?=some s->ks[j]?=some (erT s):=fun h=>by rw[hkse,Q2i];simp[h]
  simp only[erT]at hsz ⊢
  rw[←hkse]at hsz hk ⊢
  generalize hae:a.map LAlt.er=al at *
  clear hkse hae
  have hwo:kw≠ko:=fun e=>by rw[e,ho]at hw;cases hw
  have hsz2:(Q01 out ks).1.length < 1048576:=by simp only[listT,List.length_append,List.length_singleton]at hsz;omega
  refine AFn.walk 70 tabOk Tryd.func69 rfl (by kernel_rfl) rfl rfl fun hou=>?_
  have hcl:=Q2x (Γ:=Γ) b hb
  refine zA ?_
  refine ACode.drawXA tabOk 15 14 [(3,.one (int o)),(7,.one (int n)),(11,.one (.sl 1 (b.map cI))),(12,.one (.sl 1 (b.map cI)))] follows (by kernel_rfl) rfl rfl rfl rfl rfl rfl rfl rfl rfl ?_ ?_ ?_
  ·refine .step rfl (zHP (zLD rfl rfl (hi _ _ ht) rfl)) ?_
   refine .step rfl (zHP (zLD rfl rfl (hi _ _ ht) rfl)) ?_
   refine .step rfl (zHP (zLD rfl rfl (hi _ _ ht) rfl)) ?_
   exact .call hΓ hcl hou (by simp) rfl rfl rfl rfl rfl rfl .nil
  ·refine .step rfl (zHP (zLD rfl rfl (hi _ _ ht) rfl)) ?_
   refine .step rfl (zHP (zLD rfl rfl (hi _ _ ht) rfl)) ?_
   refine .step rfl (zHP (zLD rfl rfl (hi _ _ ht) rfl)) ?_
   exact .call hΓ hcl hou (by simp) rfl rfl rfl rfl rfl rfl .nil
  repeat' first|refine zN ?_|((with_reducible refine oj ?_);first|refine zix ?_|refine zow rfl rfl (hi _ _ ht) ?_)
  refine ACode.grow 0 3 3 1 rfl rfl ?_
  refine ACode.loopR hΓ (α:=Nat×Nat) (fun c=>[(29,.one (int c.1)),(28,.one (int (kC lks).length)),(27,.one (.sl 1 (kC lks))),(5,.one (.ptr (.l 0) 0)),(2,.one (.ptr (.o ko) 0)),(1,.one (.ptr (.o kw) 0)),(0,.one (.ptr (.o i) 0))])
   (fun c=>⟨2,[(1,.tok 3 1 c.1),(0,.cells [int o,int n,.sl 1 (b.map cI),.gs 1 ((Q01 out (ks.take c.1)).2.map cI) (.l 1),.lit (.slice none 0 0)])],ouS ou ko c.2 ((Q01 out (ks.take c.1)).1.map cEx)⟩)
   (fun m c=>c.1<=ks.length/\(ou c.2=none/\ko≠c.2)/\m=ks.length - c.1) (a0:=(0,kt)) (ρ:=id) ⟨by omega,⟨ht,hne⟩,rfl⟩ (LessR.of rfl zFS (by simp) ?_ rfl (by simp[Q01];rfl) hou) fun m c hi=>?_
  ·repeat' first|exact LoSub.nil|refine zlc ?_|refine zld ?_ ?_|rfl
   all_goals (simp[AObj.ren,renL,AC.ren,Q01];rfl)
  obtain⟨q,kt⟩:=c
  obtain⟨hil,⟨ht,hne⟩,rfl⟩:=hi
  simp only at hil ht hne
  have hwt:kw≠kt:=fun e=>by rw[e,ht]at hw;cases hw
  have hle:(Q01 out (ks.take q)).1.length<=(Q01 out ks).1.length:=by
   have:=Q2f (ks.take q) (ks.drop q) out
   rw[List.take_append_drop]at this
   rw[this];exact Q2n _ _
  refine zA ?_
  refine ACode.cond rfl (fun hb3=>?_) (fun hb3=>?_)
  ·have hlt2:q < ks.length:=by simp[Qgv]at hb3;omega
   obtain⟨lt,hlt3⟩:=Q00 (l:=lks) (i:=q) (by omega)
   obtain⟨t,hte⟩:∃t,t=erT lt:=⟨_,rfl⟩
   have ht2:ks[q]?=some t:=by rw[hte];exact hkg hlt3
   have hsn:=Q3v t (ks.take q) out
   rw[←Q0j ht2]at hsn
   have hle2:(listT (Q01 out (ks.take q)).1 t).length<=1048576:=by
    have:=Q2f (ks.take (q+1)) (ks.drop (q+1)) out
    rw[List.take_append_drop]at this
    have h2:=Q2n (ks.drop (q+1)) (Q01 out (ks.take (q+1))).1
    rw[←this,hsn]at h2
    simp only at h2
    omega
   have hcall:=ih lt (List.mem_of_getElem? hlt3) ou kw ko kt (Q01 out (ks.take q)).1 hou0 (hown lt (List.mem_of_getElem? hlt3)) hw ho ht hne (by rw[←hte];exact hle2)
   rw[←hte]at hcall
   have hil2:((Q01 out (ks.take q)).2.map cI).length=q:=by rw[List.length_map,Q2t];simp;omega
   refine zA ?_
   refine zS (zIA rfl rfl rfl (by omega) (Qek hlt3)) ?_
   refine zA ?_
   refine ACode.drawXR (va:=.one (int (((listT (Q01 out (ks.take q)).1 t).length:Int) - 1))) tabOk 6 4 [(2,.one (fnW kw ko))]
    (fun σ=>∃kt',ou kt'=none/\ko≠kt'/\σ=⟨2,[(1,.tok 3 1 q),(0,.cells [int o,int n,.sl 1 (b.map cI),.gs 1 ((Q01 out (ks.take q)).2.map cI) (.l 1),.lit (.slice none 0 0)])],ouS ou ko kt' ((listT (Q01 out (ks.take q)).1 t).map cEx)⟩)
    follows (by kernel_rfl) rfl rfl rfl rfl rfl ?_ rfl ⟨rfl,rfl⟩ rfl ?_ ?_ ?_ ?_
   ·rintro σ ⟨kt',h1,h2,rfl⟩;rfl
   ·refine Q2q.call hΓ rfl rfl rfl rfl (by simp) (Q2o hou0 (by simp)) hcall fun r ou' hq _ _=>?_
    obtain⟨rfl,kt',h1,h2,rfl⟩:=hq
    exact⟨rfl,kt',h1,h2,rfl⟩
   ·exact .step rfl (zHP (zLD rfl rfl (ouS_w hwo hwt _ |>.trans hw) rfl)) .nil
   ·rintro σ ⟨kt',h1,h2,rfl⟩
    have hwt':kw≠kt':=fun e=>by rw[e,h1]at hw;cases hw
    exact .step rfl (zHP (zLD rfl rfl (ouS_w hwo hwt' _ |>.trans hw) rfl)) .nil
   rintro σ ⟨kt',h1,h2,rfl⟩
   refine zA ?_
   refine AOps.app tabOk rfl rfl rfl rfl rfl rfl rfl rfl rfl (Base.gs' _ _ _ _ _ (by rfl) hil2.symm) (.sl _ _) rfl ?_ ?_ ?_
   ·rw[hil2];show (q+1) * 8<=_;omega
   ·rw[hil2];show q+1<=_;omega
   refine zM ?_
   refine cInv ⟨ks.length - (q+1),(q+1,kt'),fun k=>if k=1 then 2 else k,by omega,⟨by omega,⟨h1,h2⟩,rfl⟩,LessR.of rfl zFS (by simp) ?_ rfl (by simp only[hsn];rfl) (Q2o hou0 (by simp))⟩
   repeat' first|exact LoSub.nil|refine zlc ?_|refine zld ?_ ?_|rfl
   ·simp only[AObj.ren,List.length_append,hil2];rfl
   ·simp only[hsn];simp only[AObj.ren,renL,AC.ren,Q3i];rw[List.map_append];rfl
  have hlt2:q=ks.length:=by simp[Qgv]at hb3;omega
  subst hlt2
  rw[List.take_length]at *
  repeat' first|refine zN ?_|((with_reducible refine oj ?_);first|refine zix ?_|refine zow rfl rfl (hi _ _ ht) ?_)
  refine ACode.grow 0 4 135 2 rfl rfl ?_
  refine ACode.loopR hΓ (α:=Nat) (fun q=>[(47,.one (int q)),(46,.one (int (al.map cAlt).length)),(45,.one (.sl 2 (al.map cAlt))),(5,.one (.ptr (.l 0) 0)),(2,.one (.ptr (.o ko) 0)),(1,.one (.ptr (.o kw) 0)),(0,.one (.ptr (.o i) 0))])
   (fun q=>⟨3,[(2,.tok 135 2 q),(0,.cells [int o,int n,.sl 1 (b.map cI),.gs 1 ((Q01 out ks).2.map cI) (.l 1),.gs 2 ((al.take q).map cAlt) (.l 2)])],ouS ou ko kt ((Q01 out ks).1.map cEx)⟩)
   (fun m q=>q<=al.length/\m=al.length - q) (a0:=0) (ρ:=id) ⟨by omega,rfl⟩ (LessR.of rfl zFS (by simp) ?_ rfl rfl (Q2o hou0 (by simp))) fun m q hq=>?_
  ·repeat' first|exact LoSub.nil|refine zlc ?_|refine zld ?_ ?_|rfl
   all_goals (simp[AObj.ren,renL,AC.ren];exact⟨rfl,rfl⟩)
  obtain⟨hil,rfl⟩:=hq
  have hou2:OuOk (ouS ou ko kt ((Q01 out ks).1.map cEx)):=Q2o hou0 (by simp)
  refine zA ?_
  refine ACode.cond rfl (fun hb3=>?_) (fun hb3=>?_)
  ·have hlt2:q < al.length:=by simpa using hb3
   obtain⟨c,hc⟩:=Q00 hlt2
   have hal:((al.take q).map cAlt).length=q:=by simp;omega
   have hca:=Q2x (Γ:=Γ) c.binds (hab c (List.mem_of_getElem? hc))
   refine zA ?_
   refine zS (zIA rfl rfl rfl (by omega) (Q05 hc)) ?_
   refine zA ?_
   refine ACode.drawX tabOk 9 [(6,.one (.sl 1 (c.binds.map cI)))] follows (by kernel_rfl) rfl rfl rfl rfl (.call hΓ hca hou2 (by simp) rfl rfl rfl rfl rfl rfl .nil) ?_
   refine zA ?_
   refine AOps.app tabOk rfl rfl rfl rfl rfl rfl rfl rfl rfl (Base.gs' _ _ _ _ _ (by rfl) hal.symm) (.sl _ _) rfl ?_ ?_ ?_
   ·rw[hal];show (q+1) * 32<=_;omega
   ·rw[hal];show q+1<=_;omega
   refine zM ?_
   refine cInv ⟨al.length - (q+1),q+1,fun k=>if k=2 then 4 else k,by omega,⟨by omega,rfl⟩,LessR.of rfl zFS (by simp) ?_ rfl rfl hou2⟩
   repeat' first|exact LoSub.nil|refine zlc ?_|refine zld ?_ ?_|rfl
   ·simp only[AObj.ren,List.length_append,hal];rfl
   ·rw[Q0j hc];simp only[AObj.ren,renL,AC.ren,Q3i,Q3n];rw[List.map_append];rfl
  have hlt2:q=al.length:=by simp at hb3;omega
  subst hlt2
  rw[List.take_length]
  refine zA ?_
  refine zS (zLD rfl rfl (ouS_o hne _) rfl) ?_
  (first|((with_reducible refine oj ?_);refine zau ?_)|(with_reducible refine zst ?_)|((with_reducible refine Q0i ?_ ?_);rfl)|(with_reducible refine ok ?_;first|refine ACode.condT rfl ?_|refine ACode.condF rfl ?_))
  refine AOps.wk 64 rfl (y:=.agg (cEx ⟨o,n,b,(Q01 out ks).2,al⟩)) (WkF.agg ?_) ?_
  ·exact .cons (.refl _) (.cons (.refl _) (.cons (.refl _) (.cons (.gsE rfl) (.cons (.gsE rfl) .nil))))
  refine zA ?_
  have hT:listT out (.mk o n b ks al)=(Q01 out ks).1++[⟨o,n,b,(Q01 out ks).2,al⟩]:=by simp only[listT]
  have hmap:(Q01 out ks).1.map cEx++[cEx ⟨o,n,b,(Q01 out ks).2,al⟩]=(listT out (.mk o n b ks al)).map cEx:=by rw[hT,List.map_append];rfl
  refine AOps.app (es:=(Q01 out ks).1.map cEx) tabOk rfl rfl rfl rfl rfl rfl rfl rfl rfl (Base.gs' _ 69 5 _ (.o kt) (ouS_t ou ko kt _) rfl) (.sl 5 [cEx ⟨o,n,b,(Q01 out ks).2,al⟩]) rfl ?_ ?_ ?_
  ·simp;show (_+1) * 88<=_;omega
  ·simp;omega
  rw[hmap]
  refine AOps.storeOwn (cs:=[.gs 5 ((Q01 out ks).1.map cEx) (.o kt)]) tabOk rfl rfl rfl rfl rfl rfl rfl (show (bif Nat.beq ko kt then some AObj.dead else ouS ou ko kt ((Q01 out ks).1.map cEx) ko)=_ by rw[Q09 hne];exact ouS_o hne _) (by simp) ?_
  refine AOps.cede 3 (show 3 < 4 by omega) fun k hk=>⟨[(2,.one (.ptr (.o ko) 0))],⟨4,[],ouS ou ko k ((listT out (.mk o n b ks al)).map cEx)⟩,⟨fun d x hd=>?_,rfl,fun i x hx=>?_⟩,?_⟩
  ·by_cases e:2=d
   ·subst e
    simp[Fr.get]at hd;subst hd
    exact⟨_,rfl,WkF.ofEq rfl⟩
   ·simp[Fr.get,Q09 e]at hd
  ·have hk':(bif Nat.beq k ko then some (AObj.cells [.gs 5 ((listT out (.mk o n b ks al)).map cEx) (.l 3)])else bif Nat.beq k kt then some AObj.dead else ouS ou ko kt ((Q01 out ks).1.map cEx) k)=none:=hk
   have k1:k≠ko:=fun e=>by subst e;simp at hk'
   rw[Q09 k1]at hk'
   have k2:k≠kt:=fun e=>by subst e;simp at hk'
   rw[Q09 k2]at hk'
   simp only[cond_false,ouS_w k1 k2]at hk'
   cases i with
   |l m=>cases hx
   |o m=>
    have hx':ouS ou ko k ((listT out (.mk o n b ks al)).map cEx) m=some x:=hx
    by_cases e:m=k
    ·subst e
     rw[ouS_t]at hx';cases hx'
     exact⟨.l 3,_,rfl,rfl,rfl⟩
    ·by_cases e2:m=ko
     ·subst e2
      rw[ouS_o e]at hx';cases hx'
      refine⟨.o m,.cells [.gs 5 ((listT out (.mk o n b ks al)).map cEx) (.l 3)],?_,rfl,?_⟩
      ·show (bif Nat.beq m m then _ else _)=_;rw[Q3f];rfl
      ·simp only[AObj.sub,subL,AC.sub];rw[Q8l _ (by simp)];rfl
     ·rw[ouS_w e2 e]at hx'
      have e3:m≠kt:=fun e=>by rw[e,ht]at hx';cases hx'
      refine⟨.o m,x,?_,rfl,(AObj.sub_o x (hou0 m x hx')).symm⟩
      show (bif Nat.beq m ko then _ else bif Nat.beq m kt then _ else ouS ou ko kt _ m)=_
      rw[Q09 e2,Q09 e3]
      exact (ouS_w e2 e3 _).trans hx'
  ·have hk':(bif Nat.beq k ko then some (AObj.cells [.gs 5 ((listT out (.mk o n b ks al)).map cEx) (.l 3)])else bif Nat.beq k kt then some AObj.dead else ouS ou ko kt ((Q01 out ks).1.map cEx) k)=none:=hk
   have k1:k≠ko:=fun e=>by subst e;simp at hk'
   rw[Q09 k1]at hk'
   have k2:k≠kt:=fun e=>by subst e;simp at hk'
   rw[Q09 k2]at hk'
   simp only[cond_false,ouS_w k1 k2]at hk'
   refine zA ?_
   refine zS (zLD rfl rfl (ouS_o (Ne.symm k1) _) rfl) ?_
   refine zM ?_
   refine AFn.fin' rfl (WkF.ofEq ?_) (by simp) (Q2o hou0 (by simp)) ⟨rfl,k,hk',Ne.symm k1,rfl⟩
   simp
def IsR (X:FV)(ou:Outer)(r:FV)(ou':Outer):Prop:=r=X/\ou'=ou
theorem Qf3(hΓ:∀g cs,(g,cs)∈Γ->idsL isO cs)(t:LTr)(ht:okT (erT t))(hpl:Q1i t)(hsz:(listT [] (erT t)).length<=1048576)(ou:Outer)(hOw:Owns ou (objs t)):AFn Tryd.prog Γ 37 [.one (.ptr (.o t.id) 0)] ou (IsR (.one (.sl 5 ((listT [] (erT t)).map cEx))) ou):=by
 refine AFn.walk 10 tabOk Tryd.func37 rfl (by kernel_rfl) rfl rfl fun hou=>?_
 iterate 22 (first|((with_reducible refine oj ?_);refine zau ?_)|(with_reducible refine zst ?_)|((with_reducible refine Q0i ?_ ?_);rfl)|(with_reducible refine ok ?_;first|refine ACode.condT rfl ?_|refine ACode.condF rfl ?_))
 refine ACode.grow 0 0 69 5 rfl rfl ?_
 refine zA ?_
 refine AOps.cede 0 (show 0 < 3 by omega) fun ko hko=>⟨[(7,.one (.ptr (.o t.id) 0)),(6,.one (.fn (.func 69) [] [.ptr (.l 1) 0,.ptr (.o ko) 0])),(3,.one (.ptr (.o ko) 0))],
  ⟨3, [(2, .tok 69 5 0), (1, .cells [.fn (.func 69) [] [.ptr (.l 1) 0, .ptr (.o ko) 0]])], updO ou ko (.cells [.gs 5 [] (.l 2)])⟩, ⟨CedFr.get ?_, rfl, fun i x hx => ?_⟩, ?_⟩
 ·exact .cons rfl (rfl) (.cons rfl rfl (.cons rfl rfl .nil))
 ·have hko:ou ko=none:=hko
  cases i with
  |l m=>
   by_cases e:2=m
   ·subst e;cases hx;exact⟨.l 2,_,rfl,rfl,rfl⟩
   ·have hx':lookL m [(1,AObj.cells [.fn (.func 69) [] [.ptr (.l 1) 0,.ptr (.o ko) 0]])]=some x:=by simpa[St.get,lookL,Q09 e]using hx
    by_cases e1:1=m
    ·subst e1;cases hx';exact⟨.l 1,_,rfl,rfl,rfl⟩
    ·simp[lookL,Q09 e1]at hx'
  |o m=>
   have hx':updO ou ko (.cells [.gs 5 [] (.l 2)]) m=some x:=hx
   by_cases e:ko=m
   ·subst e;rw[Q06]at hx';cases hx';exact⟨.l 0,_,rfl,rfl,rfl⟩
   ·rw[Q0a _ e]at hx'
    exact⟨.o m,x,hx',rfl,(AObj.sub_o x (hou m x hx')).symm⟩
 have hko:ou ko=none:=hko
 refine AOps.cede 1 (show 1 < 3 by omega) fun kw hkw=>⟨[(7,.one (.ptr (.o t.id) 0)),(6,.one (fnW kw ko)),(3,.one (.ptr (.o ko) 0))],
  ⟨3, [(2, .tok 69 5 0)], updO (updO ou ko (.cells [.gs 5 [] (.l 2)])) kw (.cells [fnW kw ko])⟩, ⟨CedFr.get ?_, rfl, fun i x hx => ?_⟩, ?_⟩
 ·exact .cons rfl (rfl) (.cons rfl rfl (.cons rfl rfl .nil))
 ·have hkw:updO ou ko (.cells [.gs 5 [] (.l 2)]) kw=none:=hkw
  cases i with
  |l m=>
   by_cases e:2=m
   ·subst e;cases hx;exact⟨.l 2,_,rfl,rfl,rfl⟩
   ·simp[St.get,lookL,Q09 e]at hx
  |o m=>
   have hx':updO (updO ou ko (.cells [.gs 5 [] (.l 2)])) kw (.cells [fnW kw ko]) m=some x:=hx
   by_cases e:kw=m
   ·subst e;rw[Q06]at hx';cases hx';exact⟨.l 1,_,rfl,rfl,rfl⟩
   ·rw[Q0a _ e]at hx'
    by_cases e2:ko=m
    ·subst e2;rw[Q06]at hx';cases hx'
     exact⟨.o ko,_,Q06 _ _ _,rfl,rfl⟩
    ·have hx2:=hx'
     rw[Q0a _ e2]at hx2
     exact⟨.o m,x,hx',rfl,(AObj.sub_o x (hou m x hx2)).symm⟩
 have hkw:updO ou ko (.cells [.gs 5 [] (.l 2)]) kw=none:=hkw
 have hwo:ko≠kw:=fun e=>by subst e;rw[Q06]at hkw;cases hkw
 rw[Q0a _ hwo]at hkw
 refine AOps.cede 2 (show 2 < 3 by omega) fun kt hkt=>⟨[(7,.one (.ptr (.o t.id) 0)),(6,.one (fnW kw ko)),(3,.one (.ptr (.o ko) 0))],
  ⟨3, [], ouS (updO ou kw (.cells [fnW kw ko])) ko kt (([] : List Ex).map cEx)⟩, ⟨CedFr.get ?_, rfl, fun i x hx => ?_⟩, ?_⟩
 ·exact .cons rfl (rfl) (.cons rfl rfl (.cons rfl rfl .nil))
 ·have hkt:updO (updO ou ko (.cells [.gs 5 [] (.l 2)])) kw (.cells [fnW kw ko]) kt=none:=hkt
  have hkto:ko≠kt:=fun e=>by subst e;rw[Q0a _ (Ne.symm hwo),Q06]at hkt;cases hkt
  cases i with
  |l m=>cases hx
  |o m=>
   have hx':ouS (updO ou kw (.cells [fnW kw ko])) ko kt (([]:List Ex).map cEx) m=some x:=hx
   by_cases e:m=kt
   ·subst e;rw[ouS_t]at hx';cases hx';exact⟨.l 2,_,rfl,rfl,rfl⟩
   ·by_cases e2:m=ko
    ·subst e2;rw[ouS_o hkto]at hx';cases hx'
     refine⟨.o m,.cells [.gs 5 [] (.l 2)],?_,rfl,rfl⟩
     show updO (updO ou m (.cells [.gs 5 [] (.l 2)])) kw (.cells [fnW kw m]) m=_
     rw[Q0a _ (Ne.symm hwo),Q06]
    ·rw[ouS_w e2 e]at hx'
     by_cases e3:kw=m
     ·subst e3;rw[Q06]at hx';cases hx'
      exact⟨.o kw,_,Q06 _ _ _,rfl,rfl⟩
     ·rw[Q0a _ e3]at hx'
      refine⟨.o m,x,?_,rfl,(AObj.sub_o x (hou m x hx')).symm⟩
      show updO (updO ou ko (.cells [.gs 5 [] (.l 2)])) kw (.cells [fnW kw ko]) m=_
      rw[Q0a _ e3,Q0a _ (Ne.symm e2)];exact hx'
 have hkt:updO (updO ou ko (.cells [.gs 5 [] (.l 2)])) kw (.cells [fnW kw ko]) kt=none:=hkt
 have hwt:kw≠kt:=fun e=>by subst e;rw[Q06]at hkt;cases hkt
 rw[Q0a _ hwt]at hkt
 have hot:ko≠kt:=fun e=>by subst e;rw[Q06]at hkt;cases hkt
 rw[Q0a _ hot]at hkt
 have hob:OuOk (updO ou kw (.cells [fnW kw ko])):=fun k o hk=>by
  by_cases e:kw=k
  ·subst e;rw[Q06]at hk;cases hk;simp
  ·rw[Q0a _ e]at hk;exact hou k o hk
 have hOw2:Owns (updO ou kw (.cells [fnW kw ko])) (objs t):=hOw.frame fun j hj=>by
  obtain⟨o,hp⟩:=of_keys hj
  have hne:kw≠j:=fun e=>by
   have h1:ou j=some o:=hOw _ hp
   rw[←e,hkw]at h1;cases h1
  exact Q0a _ hne _
 have hcall:=Qec hΓ t ht hpl (updO ou kw (.cells [fnW kw ko])) kw ko kt [] hob hOw2 (Q06 _ _ _) (by rw[Q0a _ (Ne.symm hwo)];exact hko) (by rw[Q0a _ hwt];exact hkt) hot hsz
 refine AOps.call1 hΓ rfl rfl rfl rfl rfl rfl rfl (by simp) (Q2o hob (by simp)) hcall fun r ou' hq hids hou'=>?_
 obtain⟨rfl,kt',h1,h2,rfl⟩:=hq
 refine zA ?_
 refine zS (zLD rfl rfl (ouS_o h2 _) rfl) ?_
 refine AOps.wk 9 rfl (y:=.one (.sl 5 ((listT [] (erT t)).map cEx))) (.one (.gsE rfl)) ?_
 refine AOps.lessO ⟨3,[],ou⟩ rfl (fun i o ho=>?_) ?_
 ·cases i with
  |l m=>cases ho
  |o m=>
   have ho':ou m=some o:=ho
   show ouS (updO ou kw (.cells [fnW kw ko])) ko kt' _ m=some o
   have e1:m≠ko:=fun e=>by rw[e,hko]at ho';cases ho'
   have e2:kw≠m:=fun e=>by rw[←e,hkw]at ho';cases ho'
   have e3:m≠kt':=fun e=>by
    rw[←e,Q0a _ e2]at h1
    rw[h1]at ho';cases ho'
   rw[ouS_w e1 e3,Q0a _ e2];exact ho'
 refine zA ?_
 exact AFn.fin' rfl (WkF.ofEq rfl) (by simp) hou ⟨rfl,rfl⟩
end Go.Proofs.YthboaankaaeemaaDoor
namespace Go.CoreX
mutual
def hcT (h:Int):Tr->Nat
 |.mk _ _ _ ks _=>hcTs h ks
def hcTs (h:Int):List Tr->Nat
 |[]=>0
 |t::l=>(if t.op=0/\t.n < h then 1 else hcT h t)+hcTs h l
end
def fillK (h:Int)(fd:List (Option Tr)):Tr->Tr
 |.mk o n b ks a=>.mk o n b (Q5f h fd ks) a
theorem Qao(h:Int)(fd:List (Option Tr))(t:Tr):fillF h fd t=if t.op=0/\t.n < h then (fd.getD t.n.toNat none).getD default else fillK h fd t:=by
 obtain⟨o,n,b,ks,a⟩:=t
 by_cases hh:o=0/\n < h
 ·rw[if_pos (show (Tr.mk o n b ks a).op=0/\(Tr.mk o n b ks a).n < h from hh)]
  simp only[fillF]
  rw[if_pos hh];rfl
 ·rw[if_neg (show ¬((Tr.mk o n b ks a).op=0/\(Tr.mk o n b ks a).n < h)from hh)]
  simp only[fillF,fillK]
  rw[if_neg hh]
theorem Q7y(h:Int)(fd:List (Option Tr)):∀l:List Tr,Q5f h fd l=l.map (fillF h fd)
 |[]=>rfl
 |t::l=>by simp[Q5f,Q7y h fd l]
def posV (l:Lab):Prop:=l.op=0->0<=l.n
def hNo (fo:Option LTr):Nat:=match fo with|none=>0|some _=>1
def fdFo (fo:Option LTr):List (Option Tr):=match fo with|none=>[]|some u=>[some (erT u)]
end Go.CoreX
namespace Go.Proofs.YthboaankaaeemaaDoor
open Go Go.Abs Go.CoreX
variable {Γ:List (Nat×List AC)}
def pC (l:List Nat):List (List AC):=l.map fun k=>[.ptr (.o k) 0]
theorem pC_len(l:List Nat):(pC l).length=l.length:=by simp[pC]
theorem pC_one(l:List Nat):∀x∈pC l,x.length=1:=fun x hx=>by
 obtain⟨t,_,rfl⟩:=List.mem_map.1 hx;rfl
theorem kFt_pC(l:List LFt):kFt l=pC (l.map LFt.id):=by simp[kFt,pC]
theorem kC_pC(l:List LTr):kC l=pC (l.map LTr.id):=by simp[kC,pC]
theorem Qh2(p:Abs.Id->Prop)(hp:∀k,p (.o k)):∀l:List Nat,idsS p (pC l)
 |[]=>trivial
 |k::l=>⟨⟨hp _,trivial⟩,Qh2 p hp l⟩
theorem Q9y(l:List Nat)(cap:Nat):vec 1 (pC l) cap=l.map (fun k=>.ptr (.o k) 0)++List.replicate (cap - l.length) .any:=by
 unfold vec
 have e:(pC l).flatten=l.map (fun k=>AC.ptr (.o k) 0):=by
  induction l with
  |nil=>rfl
  |cons n l ih=>simp only[pC,List.map_cons,List.flatten_cons]at ih ⊢;rw[ih];rfl
 rw[e,pC_len];simp
theorem Qi9{l:List Nat}{cap i:Nat}{v:Nat}(h:l[i]?=some v):(vec 1 (pC l) cap)[i]?=some (.ptr (.o v) 0):=by
 rw[Q9y,List.getElem?_append_left (by simpa using (List.getElem?_eq_some_iff.1 h).1)]
 simp[h]
theorem Qi8{l:List Nat}{cap i:Nat}(v:Nat)(h:i < l.length):(vec 1 (pC l) cap).set i (.ptr (.o v) 0)=vec 1 (pC (l.set i v)) cap:=by
 rw[Q9y,Q9y,List.set_append_left _ _ (by simpa using h),List.length_set,List.map_set]
theorem vecP_lt{l:List Nat}{cap i:Nat}(h:i < l.length):i < (vec 1 (pC l) cap).length:=by
 rw[Q9y];simp;omega
theorem UpdL.mono{ou ou':Outer}{L L' M M':List (Nat×AObj)}(h:UpdL ou L ou' L')(h1:∀k∈keys L,k∈keys M)(h2:∀p∈M',p∈L')(hn:(keys M').Nodup):UpdL ou M ou' M' :=
 ⟨fun p hp => h.own p (h2 p hp), hn, fun k hk => by
  obtain⟨p,hp,rfl⟩:=List.mem_map.1 hk
  exact (h.new p.1 (List.mem_map_of_mem (h2 p hp))).imp (h1 _) id,fun k hk hne=>h.old k (fun h3=>hk (h1 k h3)) hne,h.ok⟩
theorem Q1u{l m:List Nat}(h:∀k,m.count k<=l.count k)(hn:l.Nodup):m.Nodup:=by
 rw[List.nodup_iff_count]at hn ⊢
 exact fun k=>Nat.le_trans (h k) (hn k)
def foC (fo:Option LTr):List AC:=match fo with|none=>[]|some u=>[.ptr (.o u.id) 0]
def foO (fo:Option LTr)(m:Nat):List (Nat×AObj):=match fo with|none=>[]|some u=>if m=0 then []else objs u
theorem Q5c(fo:Option LTr):foO fo 0=[]:=by cases fo <;> rfl
def FillQ (fo:Option LTr)(T:LFt)(ou:Outer)(r:FV)(ou':Outer):Prop:=r=.tup []/\∃N:LTr,N.id=T.id/\erT N=fillK (hNo fo) (fdFo fo) (erFt T)/\((∀u,fo=some u->Q1i u)->Q1i N)/\UpdL ou (obFt T++foO fo (hcT (hNo fo) (erFt T))) ou' (objs N)
def FillOk (Γ:List (Nat×List AC))(fo:Option LTr)(T:LFt):Prop:=∀(ou:Outer)(kf:Nat),OuOk ou->Owns ou (obFt T++foO fo (hcT (hNo fo) (erFt T)))->(keys (obFt T++foO fo (hcT (hNo fo) (erFt T)))).Nodup->kf∉keys (obFt T++foO fo (hcT (hNo fo) (erFt T)))->ou kf=some (.cells (foC fo))->
 AFn Tryd.prog Γ 97 [.one (.ptr (.o T.id) 0),.one (int (hNo fo:Nat)),.one (.arr (.o kf) 1 0 (hNo fo) (hNo fo))] ou (FillQ fo T ou)
def Lst (fo:Option LTr)(id:Nat)(o n:Int)(a cap:Nat)(ks:List LFt)(i:Nat)(done:List LTr):List (Nat×AObj):=
 (id,nFt o n (some (a,cap)) (kFt ks))::(a,.cells (vec 1 (pC (done.map LTr.id++(ks.drop i).map LFt.id)) cap))::(objss done++(obFts (ks.drop i)++foO fo (hcTs (hNo fo) (erFts (ks.drop i)))))
theorem Qjp(fo:Option LTr)(id:Nat)(o n:Int)(a cap:Nat)(ks:List LFt):Lst fo id o n a cap ks 0 []=obFt (.mk id o n (some (a,cap)) ks)++foO fo (hcT (hNo fo) (erFt (.mk id o n (some (a,cap)) ks))):=by
 simp[Lst,obFt,koFt,objss,erFt,hcT,kFt_pC]
theorem hc_drop(h:Int){l:List Tr}{i:Nat}{t:Tr}(ht:l[i]?=some t):hcTs h (l.drop i)=(if t.op=0/\t.n < h then 1 else hcT h t)+hcTs h (l.drop (i+1)):=by
 obtain⟨h1,h2⟩:=List.getElem?_eq_some_iff.1 ht
 rw[List.drop_eq_getElem_cons h1,h2,hcTs]
theorem hc_le(h:Int):∀(l:List Tr)(i:Nat),hcTs h (l.drop i)<=hcTs h l
 |[],i=>by simp
 |t::l,0=>Nat.le_refl _
 |t::l,i+1=>by
  have:=hc_le h l i
  simp only[List.drop_succ_cons,hcTs];omega
theorem Q1n(l:List LFt)(i:Nat):erFts (l.drop i)=(erFts l).drop i:=by simp[Q40,List.map_drop]
theorem erFt_op(t:LFt):(erFt t).op=t.op:=by cases t;rfl
theorem erFt_n(t:LFt):(erFt t).n=t.n:=by cases t;rfl
theorem UpdL.one{ou:Outer}{i:Nat}{R:List (Nat×AObj)}{c c':AObj}(hO:Owns ou ((i,c)::R))(hn:(keys ((i,c)::R)).Nodup)(hou:OuOk ou)(hc:c'.ids isO):UpdL ou ((i,c)::R) (updO ou i c') ((i,c')::R):=by
 simp only[keys,List.map_cons,List.nodup_cons]at hn
 refine⟨fun p hp=>?_,by simpa[keys]using hn,fun k hk=>.inl (by simpa[keys]using hk),fun k hk hne=>?_,Q6z hou hc⟩
 ·rcases List.mem_cons.1 hp with rfl|hp
  ·exact Q06 _ _ _
  ·rw[Q0a _ (fun e=>hn.1 (by rw[e];exact List.mem_map_of_mem hp))]
   exact hO p (List.mem_cons_of_mem _ hp)
 ·simp only[keys,List.map_cons,List.mem_cons,not_or]at hk
  exact Q0a _ (Ne.symm hk.1) _
theorem Qf9:∀{t:LFt}{ou:Outer},Owns ou (obFt t)->∃c,ou t.id=some (.cells [int t.op,int t.n,.sl 1 [],c,.sl 2 []])
 |.mk i o n kb k,ou,h=>⟨_,(ownsFt h).1⟩
theorem Qan{fo:Option LTr}{m m':Nat}(h:m≠0->m'≠0){p:Nat×AObj}(hp:p∈foO fo m):p∈foO fo m':=by
 cases fo with
 |none=>exact hp
 |some u=>
  simp only[foO]at hp ⊢
  by_cases h0:m=0
  ·rw[if_pos h0]at hp;cases hp
  ·rw[if_neg h0]at hp
   rw[if_neg (h h0)];exact hp
theorem Qhf(fo:Option LTr)(k m r:Nat)(h:m+r<=1):(keys (foO fo (m+r))).count k=(keys (foO fo m)).count k+(keys (foO fo r)).count k:=by
 rcases Nat.eq_zero_or_pos m with h0|h0
 ·subst h0;simp[Q5c,keys]
 ·have:r=0:=by omega
  subst this;simp[Q5c,keys]
theorem Q3a(fo:Option LTr)(id:Nat)(o n:Int)(a cap:Nat)(ks:List LFt)(i:Nat)(done:List LTr)(k:Nat):
  (keys (Lst fo id o n a cap ks i done)).count k=(if id=k then 1 else 0)+(if a=k then 1 else 0)+(keys (objss done)).count k+(keys (obFts (ks.drop i))).count k+(keys (foO fo (hcTs (hNo fo) (erFts (ks.drop i))))).count k:=by
 simp only[Lst,keys,List.map_cons,List.map_append,List.count_cons,List.count_append,beq_iff_eq]
 omega
theorem Qhg(hΓ:∀g cs,(g,cs)∈Γ->idsL isO cs)(fo:Option LTr):∀T:LFt,okFt T->allT posV (erFt T)->hcT (hNo fo) (erFt T)<=1->FillOk Γ fo T
 |.mk id o n kb ks,hok,hpv,hc1=>by
  obtain⟨hk1,hk2,hk3,hk4⟩:=hok
  have hpk:∀t∈ks,allT posV (erFt t):=fun t ht=>Q3s.1 hpv.2 _ (by rw[Q40];exact List.mem_map_of_mem ht)
  have ih:∀t∈ks,hcT (hNo fo) (erFt t)<=1->FillOk Γ fo t:=fun t ht h=>Qhg hΓ fo t (Qbh hk4 ht) (hpk t ht) h
  intro ou kf hou0 hO hnd hkf hf
  cases kb with
  |none=>
   have hk0:=hk1 rfl
   subst hk0
   have hi:ou id=some (.cells [int o,int n,.sl 1 [],.sl 1 [],.sl 2 []]):=hO (id,_) (by rw[obFt];simp[nFt,kcFt,kFt])
   refine AFn.walk 49 tabOk Tryd.func97 rfl (by kernel_rfl) rfl rfl fun hou=>?_
   repeat' first|refine zN ?_|((with_reducible refine oj ?_);first|refine zix ?_|refine zow rfl rfl hi ?_)
   refine ACode.loopR hΓ (α:=Unit) (fun _=>[(13,.one (int 0)),(12,.one (int 0))]) (fun _=>⟨0,[],ou⟩) (fun m _=>m=0) (a0:=()) (ρ:=_root_.id) rfl (LessR.of rfl zFS (by simp) zLO rfl rfl hou) fun m c hc=>?_
   refine zA ?_
   have hU:=UpdL.refl hO hnd hou0
   refine AFn.fin' rfl (WkF.ofEq rfl) (by simp[FV.ids,idsF]) hou ⟨rfl,.mk id o n none [] [] [],rfl,rfl,fun _=>⟨rfl,(fun x hx=>by cases hx),trivial⟩,hU.mono (fun k h=>h) (fun p hp=>?_) (by simp[objs,objss,bO,aO,keys])⟩
   simp[objs,objss,bO,bC,aO,kC]at hp
   subst hp
   simp[obFt,nFt,kcFt,kFt]
  |some x=>
   obtain⟨a,cap⟩:=x
   have hcap:=hk2 a cap rfl
   have hi:ou id=some (.cells [int o,int n,.sl 1 [],.arr (.o a) 1 0 (kFt ks).length cap,.sl 2 []]):=hO (id,_) (by rw[obFt];simp[nFt,kcFt])
   refine AFn.walk 49 tabOk Tryd.func97 rfl (by kernel_rfl) rfl rfl fun hou=>?_
   repeat' first|refine zN ?_|((with_reducible refine oj ?_);first|refine zix ?_|refine zow rfl rfl hi ?_)
   have hU0:=UpdL.refl hO hnd hou0
   obtain⟨L0,hL0⟩:∃L0,L0=obFt (.mk id o n (some (a,cap)) ks)++foO fo (hcT (hNo fo) (erFt (.mk id o n (some (a,cap)) ks))):=⟨_,rfl⟩
   rw[←hL0]at hU0 hO hnd hkf
   have hL0':=hL0
   rw[←Qjp]at hL0'
   refine ACode.loopR hΓ (α:=Nat×Outer×List LTr) (fun c=>[(13,.one (int c.1)),(12,.one (int (kFt ks).length)),(11,.one (.arr (.o a) 1 0 (kFt ks).length cap)),(0,.one (.ptr (.o id) 0)),(1,.one (int (hNo fo:Nat))),(2,.one (.arr (.o kf) 1 0 (hNo fo) (hNo fo)))])
    (fun c => ⟨0, [], c.2.1⟩) (fun m c => c.1 <= ks.length /\ (c.2.2.length = c.1 /\ ((∀ u, fo = some u -> Q1i u) -> Q5n c.2.2) /\ erTs c.2.2 = (Q5f (hNo fo) (fdFo fo) (erFts ks)).take c.1 /\ UpdL ou L0 c.2.1 (Lst fo id o n a cap ks c.1 c.2.2)) /\ m = ks.length - c.1) (a0 := (0, ou, [])) (ρ := _root_.id) ⟨by omega, ⟨rfl, fun _ => trivial, rfl, by rw [← hL0']; exact hU0⟩, rfl⟩
    (LessR.of rfl zFS (by simp) zLO rfl rfl hou) fun m c hc => ?_
   obtain⟨i,ov,done⟩:=c
   obtain⟨hil,⟨hdl,hdp,hde,hU⟩,rfl⟩:=hc
   dsimp only at hil hdl hdp hde hU
   have hov:=hU.ok
   have hga:ov a=some (.cells (vec 1 (pC (done.map LTr.id++(ks.drop i).map LFt.id)) cap)):=hU.own (a,_) (by simp[Lst])
   have hgi:ov id=some (.cells [int o,int n,.sl 1 [],.arr (.o a) 1 0 (kFt ks).length cap,.sl 2 []]):=hU.own (id,_) (by simp[Lst,nFt,kcFt])
   by_cases hlt:i < ks.length
   ·obtain⟨t,ht⟩:=Q00 hlt
    have hdr:ks.drop i=t::ks.drop (i+1):=by
     obtain⟨h1,h2⟩:=List.getElem?_eq_some_iff.1 ht
     rw[List.drop_eq_getElem_cons h1,h2]
    have het:(erFts ks)[i]?=some (erFt t):=by rw[Q40];simp[ht]
    have hcd:=hc_drop (hNo fo) het
    have hcl:=hc_le (hNo fo) (erFts ks) i
    have hc1':hcTs (hNo fo) (erFts ks)<=1:=hc1
    have hix:(done.map LTr.id++(ks.drop i).map LFt.id)[i]?=some t.id:=by
     rw[hdr,List.getElem?_append_right (by simp[hdl])]
     simp[hdl]
    have hft:(Q5f (hNo fo) (fdFo fo) (erFts ks))[i]?=some (fillF (hNo fo) (fdFo fo) (erFt t)):=by rw[Q7y];simp[het]
    have hot:Owns ov (obFt t):=fun p hp=>hU.own p (by
     unfold Lst
     rw[hdr]
     simp[obFts,hp])
    refine zA ?_
    refine ACode.cond rfl (fun hb=>?_) (fun hb=>?_)
    case refine_2=>simp[Q4t]at hb;omega
    refine zA ?_
    refine zS (idxI tabOk rfl rfl rfl rfl rfl rfl rfl (by simp[Q4t];omega)) ?_
    refine zS (zLD rfl rfl hga (Qi9 hix)) ?_
    obtain⟨tc,hti⟩:=Qf9 hot
    have hH0:((erFt t).op=0/\(erFt t).n < (hNo fo:Nat))↔(t.op=0/\t.n < (hNo fo:Nat)):=by rw[erFt_op,erFt_n]
    repeat ((fail_if_success ((with_reducible refine oj ?_);refine AOps.atDst 24 rfl ?_));first|refine zO ?_|((with_reducible refine oj ?_);first|refine zix ?_|refine zow rfl rfl hti ?_))
    refine AOps.splitG rfl rfl rfl (fun hb5=>?_) (fun hb5=>?_)
    ·have h0:t.op=0:=by simpa using hb5
     repeat' first|refine zN ?_|((with_reducible refine oj ?_);first|refine zix ?_|refine zow rfl rfl hti ?_)
     refine ACode.cond rfl (fun hb6=>?_) (fun hb6=>?_)
     ·have hoh:t.n < (hNo fo:Nat):=by simpa using hb6
      have hp0:0<=t.n:=by
       have h9:=hpk t (List.mem_of_getElem? ht)
       cases t
       exact h9.1 h0
      cases fo with
      |none=>simp only[hNo]at hoh;omega
      |some u=>
      have hn0:t.n=0:=by simp only[hNo]at hoh;omega
      rw[hn0]at hti
      have hH:(erFt t).op=0/\(erFt t).n < (hNo (some u):Nat):=hH0.2 ⟨h0,hoh⟩
      have hm0:hcTs (hNo (some u)) (erFts (ks.drop i))=1+hcTs (hNo (some u)) (erFts (ks.drop (i+1))):=by
       rw[Q1n,Q1n,hcd,if_pos hH]
      have hm1:hcTs (hNo (some u)) (erFts (ks.drop i))<=1:=by rw[Q1n];omega
      have hm2:hcTs (hNo (some u)) (erFts (ks.drop (i+1)))=0:=by omega
      have hm3:hcTs (hNo (some u)) (erFts (ks.drop i))=1:=by omega
      have hkL:kf∉keys (Lst (some u) id o n a cap ks i done):=fun h=>(hU.new kf h).elim hkf (by rw[hf];simp)
      have hfv:ov kf=some (.cells [.ptr (.o u.id) 0]):=(hU.old kf hkf (by rw[hf];simp)).trans hf
      refine zA ?_
      refine ACode.drawX tabOk 12 [(3,.one (.arr (.o a) 1 0 (kFt ks).length cap)),(9,.one (int 0)),(10,.one (.ptr (.o kf) 0)),(11,.one (.ptr (.o u.id) 0))] follows (by kernel_rfl) rfl rfl rfl rfl ?_ ?_
      ·refine .step rfl (zHP (zLD rfl rfl hgi rfl)) (.step rfl (zHP (zLD rfl rfl hti rfl)) ?_)
       refine .step rfl (zHP (idxI (n:=0) tabOk rfl rfl rfl rfl rfl rfl rfl (show 0 < 1 from Nat.one_pos))) ?_
       exact .step rfl (zHP (zLD rfl rfl hfv rfl)) .nil
      refine zS (idxI tabOk rfl rfl rfl rfl rfl rfl rfl (by simp[Q4t];omega)) ?_
      have hil3:i < (done.map LTr.id++(ks.drop i).map LFt.id).length:=(List.getElem?_eq_some_iff.1 hix).1
      refine AOps.storeOwn tabOk rfl rfl rfl rfl rfl rfl rfl hga (vecP_lt hil3) ?_
      rw[Qi8 _ hil3,Q4q]
      have hids:(done.map LTr.id++(ks.drop i).map LFt.id).set i u.id=(done++[u]).map LTr.id++(ks.drop (i+1)).map LFt.id:=by
       rw[hdr,List.set_append_right _ _ (by simp[hdl])]
       simp[hdl]
      rw[hids]
      have hset:=UpdL.one (ou:=ov) (i:=a) (c:=.cells (vec 1 (pC (done.map LTr.id++(ks.drop i).map LFt.id)) cap)) (c':=.cells (vec 1 (pC ((done++[u]).map LTr.id++(ks.drop (i+1)).map LFt.id)) cap)) (R:=(id,nFt o n (some (a,cap)) (kFt ks))::(objss done++(obFts (ks.drop i)++foO (some u) (hcTs (hNo (some u)) (erFts (ks.drop i)))))) (fun p hp=>hU.own p (by
       unfold Lst
       simp only[List.mem_cons]at hp ⊢
       rcases hp with hp|hp|hp
       ·exact .inr (.inl hp)
       ·exact .inl hp
       ·exact .inr (.inr hp))) (Q1u (fun k=>by
        rw[Q3a]
        simp only[keys,List.map_append,List.map_cons,List.count_append,List.count_cons,beq_iff_eq]
        omega) hU.nd) hov (Q2g (Qh2 _ (fun _=>trivial) _))
      have hstep:UpdL ov (Lst (some u) id o n a cap ks i done) (updO ov a (.cells (vec 1 (pC ((done++[u]).map LTr.id++(ks.drop (i+1)).map LFt.id)) cap))) (Lst (some u) id o n a cap ks (i+1) (done++[u])):=by
       refine hset.mono (fun k hk=>?_) (fun p hp=>?_) (Q1u (fun k=>?_) hset.nd)
       ·have h1:0 < (keys (Lst (some u) id o n a cap ks i done)).count k:=by
         have h2:=List.count_pos_iff.2 hk
         rw[Q3a]
         simp only[keys,List.map_append,List.map_cons,List.count_append,List.count_cons,beq_iff_eq]at h2 ⊢
         omega
        exact List.count_pos_iff.1 h1
       ·unfold Lst at hp
        rw[Q2m,hm2,Q5c]at hp
        rw[hm3,hdr]
        simp only[List.mem_cons,List.mem_append,objss,obFts,List.append_nil,List.not_mem_nil,or_false,foO]at hp ⊢
        rcases hp with hp|hp|(hp|hp)|hp
        ·exact .inr (.inl hp)
        ·exact .inl hp
        ·exact .inr (.inr (.inl hp))
        ·exact .inr (.inr (.inr (.inr hp)))
        ·exact .inr (.inr (.inr (.inl (.inr hp))))
       ·rw[Q3a,Q2m,hm2,hm3,Q5c]
        have h9:(keys (obFts (ks.drop i))).count k=(keys (obFt t)).count k+(keys (obFts (ks.drop (i+1)))).count k:=by rw[hdr,obFts,Q0z,List.count_append]
        simp only[keys]at h9
        simp only[keys,List.append_nil,List.map_append,List.map_cons,List.map_nil,List.count_append,List.count_cons,List.count_nil,beq_iff_eq,objss,foO]
        simp
        omega
      refine zM ?_
      refine cInv ⟨ks.length - (i+1),(i+1,updO ov a (.cells (vec 1 (pC ((done++[u]).map LTr.id++(ks.drop (i+1)).map LFt.id)) cap)),done++[u]),_root_.id,by omega,⟨by omega,⟨by simp[hdl],fun h=>Q0s.2 fun z hz=>(by rcases List.mem_append.1 hz with hz|hz;exact Q0s.1 (hdp h) z hz;simp at hz;subst hz;exact h _ rfl),?_,hU.trans hstep⟩,rfl⟩,LessR.of rfl zFS (by simp) zLO rfl rfl hstep.ok⟩
      rw[Q0j hft,←hde,Qao,if_pos hH,Qat,erFt_n,hn0]
      simp[erTs,fdFo]
     ·have hH:¬((erFt t).op=0/\(erFt t).n < (hNo fo:Nat)):=fun h=>by simp at hb6;have:=(hH0.1 h).2;omega
      refine zA ?_
      have hm0:hcTs (hNo fo) (erFts (ks.drop i))=hcT (hNo fo) (erFt t)+hcTs (hNo fo) (erFts (ks.drop (i+1))):=by
       rw[Q1n,Q1n,hcd,if_neg hH]
      have hm1:hcTs (hNo fo) (erFts (ks.drop i))<=1:=by rw[Q1n];omega
      have hsub:∀p,p∈obFt t++foO fo (hcT (hNo fo) (erFt t))->p∈Lst fo id o n a cap ks i done:=fun p hp=>by
       unfold Lst
       rw[hdr,obFts]
       rw[hdr]at hm0
       simp only[List.mem_cons,List.mem_append]at hp ⊢
       rcases hp with hp|hp
       ·exact .inr (.inr (.inr (.inl (.inl hp))))
       ·exact .inr (.inr (.inr (.inr (Qan (fun h=>by omega) hp))))
      have hcnt:∀k,(keys (Lst fo id o n a cap ks i done)).count k=(if id=k then 1 else 0)+(if a=k then 1 else 0)+(keys (objss done)).count k+((keys (obFt t)).count k+(keys (obFts (ks.drop (i+1)))).count k)+((keys (foO fo (hcT (hNo fo) (erFt t)))).count k+(keys (foO fo (hcTs (hNo fo) (erFts (ks.drop (i+1)))))).count k):=fun k=>by
       have h1:=Q3a fo id o n a cap ks i done k
       have h2:=Qhf fo k (hcT (hNo fo) (erFt t)) (hcTs (hNo fo) (erFts (ks.drop (i+1)))) (by omega)
       rw[hm0,h2]at h1
       rw[hdr]at h1
       rw[obFts,Q0z,List.count_append]at h1
       exact h1
      have hndt:(keys (obFt t++foO fo (hcT (hNo fo) (erFt t)))).Nodup:=Q1u (fun k=>by rw[hcnt k,Q0z,List.count_append];omega) hU.nd
      have hkL:kf∉keys (Lst fo id o n a cap ks i done):=fun h=>(hU.new kf h).elim hkf (by rw[hf];simp)
      have hkt:kf∉keys (obFt t++foO fo (hcT (hNo fo) (erFt t))):=fun h=>by
       obtain⟨p,hp,e⟩:=List.mem_map.1 h
       exact hkL (e▸List.mem_map_of_mem (hsub p hp))
      have hfv:ov kf=some (.cells (foC fo)):=(hU.old kf hkf (by rw[hf];simp)).trans hf
      have hcall:=ih t (List.mem_of_getElem? ht) (by omega) ov kf hov (fun p hp=>hU.own p (hsub p hp)) hndt hkt hfv
      refine AOps.call1 hΓ rfl rfl rfl rfl rfl rfl rfl (by simp[FV.ids,idsF,AC.ids,isO]) hov hcall fun r ow hq hids how=>?_
      obtain⟨rfl,N,hN1,hN2,hNp,hN3⟩:=hq
      have hpart:=hN3.part (A:=(id,nFt o n (some (a,cap)) (kFt ks))::(a,.cells (vec 1 (pC (done.map LTr.id++(ks.drop i).map LFt.id)) cap))::(objss done++(obFts (ks.drop (i+1))++foO fo (hcTs (hNo fo) (erFts (ks.drop (i+1))))))) (C:=[]) (fun p hp=>hU.own p (by
       simp only[List.append_nil,List.mem_append,List.mem_cons]at hp
       rcases hp with (hp|hp|hp|hp|hp)|hp
       ·exact hp▸List.mem_cons_self
       ·exact hp▸List.mem_cons_of_mem _ List.mem_cons_self
       ·unfold Lst;simp[hp]
       ·unfold Lst;rw[hdr,obFts];simp[hp]
       ·unfold Lst
        rw[hdr]at hm0
        rw[hdr]
        simp only[List.mem_cons,List.mem_append]
        exact .inr (.inr (.inr (.inr (Qan (fun h=>by omega) hp))))
       ·exact hsub p (by simpa using hp))) (Q1u (fun k=>by
        rw[hcnt k]
        simp only[keys,List.append_nil,List.map_append,List.map_cons,List.count_append,List.count_cons,beq_iff_eq]
        omega) hU.nd)
      have hids:(done++[N]).map LTr.id++(ks.drop (i+1)).map LFt.id=done.map LTr.id++(ks.drop i).map LFt.id:=by rw[hdr];simp[hN1]
      have hstep:UpdL ov (Lst fo id o n a cap ks i done) ow (Lst fo id o n a cap ks (i+1) (done++[N])):=by
       refine hpart.mono (fun k hk=>?_) (fun p hp=>?_) (Q1u (fun k=>?_) hpart.nd)
       ·have h1:0 < (keys (Lst fo id o n a cap ks i done)).count k:=by
         have h2:=List.count_pos_iff.2 hk
         rw[hcnt k]
         simp only[keys,List.append_nil,List.map_append,List.map_cons,List.count_append,List.count_cons,beq_iff_eq]at h2 ⊢
         omega
        exact List.count_pos_iff.1 h1
       ·unfold Lst at hp
        rw[hids,Q2m]at hp
        simp only[List.mem_cons,List.mem_append,objss,List.append_nil]at hp ⊢
        rcases hp with hp|hp|(hp|hp)|hp|hp
        ·exact .inl (.inl hp)
        ·exact .inl (.inr (.inl hp))
        ·exact .inl (.inr (.inr (.inl hp)))
        ·exact .inr hp
        ·exact .inl (.inr (.inr (.inr (.inl hp))))
        ·exact .inl (.inr (.inr (.inr (.inr hp))))
       ·rw[Q3a,Q2m]
        simp only[keys,List.append_nil,List.map_append,List.map_cons,List.count_append,List.count_cons,beq_iff_eq,objss]
        omega
      refine zM ?_
      refine cInv ⟨ks.length - (i+1),(i+1,ow,done++[N]),_root_.id,by omega,⟨by omega,⟨by simp[hdl],fun h=>Q0s.2 fun z hz=>(by rcases List.mem_append.1 hz with hz|hz;exact Q0s.1 (hdp h) z hz;simp at hz;subst hz;exact hNp h),?_,hU.trans hstep⟩,rfl⟩,LessR.of rfl zFS (by simp) zLO rfl rfl how⟩
      rw[Q0j hft,←hde,Qao,if_neg hH,Qat]
      simp[erTs,hN2]
    ·have h0:¬t.op=0:=by simpa using hb5
     have hH:¬((erFt t).op=0/\(erFt t).n < (hNo fo:Nat)):=fun h=>h0 (hH0.1 h).1
     refine zM ?_
     have hm0:hcTs (hNo fo) (erFts (ks.drop i))=hcT (hNo fo) (erFt t)+hcTs (hNo fo) (erFts (ks.drop (i+1))):=by
      rw[Q1n,Q1n,hcd,if_neg hH]
     have hm1:hcTs (hNo fo) (erFts (ks.drop i))<=1:=by rw[Q1n];omega
     have hsub:∀p,p∈obFt t++foO fo (hcT (hNo fo) (erFt t))->p∈Lst fo id o n a cap ks i done:=fun p hp=>by
      unfold Lst
      rw[hdr,obFts]
      rw[hdr]at hm0
      simp only[List.mem_cons,List.mem_append]at hp ⊢
      rcases hp with hp|hp
      ·exact .inr (.inr (.inr (.inl (.inl hp))))
      ·exact .inr (.inr (.inr (.inr (Qan (fun h=>by omega) hp))))
     have hcnt:∀k,(keys (Lst fo id o n a cap ks i done)).count k=(if id=k then 1 else 0)+(if a=k then 1 else 0)+(keys (objss done)).count k+((keys (obFt t)).count k+(keys (obFts (ks.drop (i+1)))).count k)+((keys (foO fo (hcT (hNo fo) (erFt t)))).count k+(keys (foO fo (hcTs (hNo fo) (erFts (ks.drop (i+1)))))).count k):=fun k=>by
      have h1:=Q3a fo id o n a cap ks i done k
      have h2:=Qhf fo k (hcT (hNo fo) (erFt t)) (hcTs (hNo fo) (erFts (ks.drop (i+1)))) (by omega)
      rw[hm0,h2]at h1
      rw[hdr]at h1
      rw[obFts,Q0z,List.count_append]at h1
      exact h1
     have hndt:(keys (obFt t++foO fo (hcT (hNo fo) (erFt t)))).Nodup:=Q1u (fun k=>by rw[hcnt k,Q0z,List.count_append];omega) hU.nd
     have hkL:kf∉keys (Lst fo id o n a cap ks i done):=fun h=>(hU.new kf h).elim hkf (by rw[hf];simp)
     have hkt:kf∉keys (obFt t++foO fo (hcT (hNo fo) (erFt t))):=fun h=>by
      obtain⟨p,hp,e⟩:=List.mem_map.1 h
      exact hkL (e▸List.mem_map_of_mem (hsub p hp))
     have hfv:ov kf=some (.cells (foC fo)):=(hU.old kf hkf (by rw[hf];simp)).trans hf
     have hcall:=ih t (List.mem_of_getElem? ht) (by omega) ov kf hov (fun p hp=>hU.own p (hsub p hp)) hndt hkt hfv
     refine AOps.call1 hΓ rfl rfl rfl rfl rfl rfl rfl (by simp[FV.ids,idsF,AC.ids,isO]) hov hcall fun r ow hq hids how=>?_
     obtain⟨rfl,N,hN1,hN2,hNp,hN3⟩:=hq
     have hpart:=hN3.part (A:=(id,nFt o n (some (a,cap)) (kFt ks))::(a,.cells (vec 1 (pC (done.map LTr.id++(ks.drop i).map LFt.id)) cap))::(objss done++(obFts (ks.drop (i+1))++foO fo (hcTs (hNo fo) (erFts (ks.drop (i+1))))))) (C:=[]) (fun p hp=>hU.own p (by
      simp only[List.append_nil,List.mem_append,List.mem_cons]at hp
      rcases hp with (hp|hp|hp|hp|hp)|hp
      ·exact hp▸List.mem_cons_self
      ·exact hp▸List.mem_cons_of_mem _ List.mem_cons_self
      ·unfold Lst;simp[hp]
      ·unfold Lst;rw[hdr,obFts];simp[hp]
      ·unfold Lst
       rw[hdr]at hm0
       rw[hdr]
       simp only[List.mem_cons,List.mem_append]
       exact .inr (.inr (.inr (.inr (Qan (fun h=>by omega) hp))))
      ·exact hsub p (by simpa using hp))) (Q1u (fun k=>by
       rw[hcnt k]
       simp only[keys,List.append_nil,List.map_append,List.map_cons,List.count_append,List.count_cons,beq_iff_eq]
       omega) hU.nd)
     have hids:(done++[N]).map LTr.id++(ks.drop (i+1)).map LFt.id=done.map LTr.id++(ks.drop i).map LFt.id:=by rw[hdr];simp[hN1]
     have hstep:UpdL ov (Lst fo id o n a cap ks i done) ow (Lst fo id o n a cap ks (i+1) (done++[N])):=by
      refine hpart.mono (fun k hk=>?_) (fun p hp=>?_) (Q1u (fun k=>?_) hpart.nd)
      ·have h1:0 < (keys (Lst fo id o n a cap ks i done)).count k:=by
        have h2:=List.count_pos_iff.2 hk
        rw[hcnt k]
        simp only[keys,List.append_nil,List.map_append,List.map_cons,List.count_append,List.count_cons,beq_iff_eq]at h2 ⊢
        omega
       exact List.count_pos_iff.1 h1
      ·unfold Lst at hp
       rw[hids,Q2m]at hp
       simp only[List.mem_cons,List.mem_append,objss,List.append_nil]at hp ⊢
       rcases hp with hp|hp|(hp|hp)|hp|hp
       ·exact .inl (.inl hp)
       ·exact .inl (.inr (.inl hp))
       ·exact .inl (.inr (.inr (.inl hp)))
       ·exact .inr hp
       ·exact .inl (.inr (.inr (.inr (.inl hp))))
       ·exact .inl (.inr (.inr (.inr (.inr hp))))
      ·rw[Q3a,Q2m]
       simp only[keys,List.append_nil,List.map_append,List.map_cons,List.count_append,List.count_cons,beq_iff_eq,objss]
       omega
     refine zM ?_
     refine cInv ⟨ks.length - (i+1),(i+1,ow,done++[N]),_root_.id,by omega,⟨by omega,⟨by simp[hdl],fun h=>Q0s.2 fun z hz=>(by rcases List.mem_append.1 hz with hz|hz;exact Q0s.1 (hdp h) z hz;simp at hz;subst hz;exact hNp h),?_,hU.trans hstep⟩,rfl⟩,LessR.of rfl zFS (by simp) zLO rfl rfl how⟩
     rw[Q0j hft,←hde,Qao,if_neg hH,Qat]
     simp[erTs,hN2]
   ·have hil2:i=ks.length:=by omega
    subst hil2
    repeat ((fail_if_success ((with_reducible refine oj ?_);refine AOps.atDst 14 rfl ?_));first|refine zO ?_)
    have hdz:ks.drop ks.length=[]:=List.drop_length
    rw[hdz,List.map_nil,List.append_nil]at hga
    have hai:a≠id:=fun e=>by
     have h1:=List.nodup_iff_count.1 hU.nd a
     rw[Q3a,if_pos e.symm,if_pos rfl]at h1
     omega
    have hpl:(kFt ks).length=(pC (done.map LTr.id)).length:=by rw[Q4t,pC_len,List.length_map,hdl]
    rw[hpl]at hgi
    refine AOps.freezeArrO (.o a) (.o id) 3 (s:=1) (cap:=cap) (es:=pC (done.map LTr.id)) (cs:=[int o,int n,.sl 1 [],.arr (.o a) 1 0 (pC (done.map LTr.id)).length cap,.sl 2 []]) hga (pC_one _) (by rw[St.get_set_ne _ (by simpa using hai)];exact hgi) rfl ?_
    rw[Q4q,Q4q]
    have hLz:Lst fo id o n a cap ks ks.length done=(id,nFt o n (some (a,cap)) (kFt ks))::(a,.cells (vec 1 (pC (done.map LTr.id)) cap))::objss done:=by
     unfold Lst;rw[hdz];simp[obFts,erFts,hcTs,Q5c]
    rw[hLz]at hU
    have hd1:=UpdL.one (ou:=ov) (i:=a) (c:=.cells (vec 1 (pC (done.map LTr.id)) cap)) (c':=.dead) (R:=(id,nFt o n (some (a,cap)) (kFt ks))::objss done) (fun p hp=>hU.own p (by
      simp only[List.mem_cons]at hp ⊢
      rcases hp with hp|hp|hp
      ·exact .inr (.inl hp)
      ·exact .inl hp
      ·exact .inr (.inr hp))) (Q1u (fun k=>by
       simp only[keys,List.map_cons,List.count_cons,beq_iff_eq]
       omega) hU.nd) hov trivial
    have hd2:=UpdL.one (ou:=updO ov a .dead) (i:=id) (c:=nFt o n (some (a,cap)) (kFt ks)) (c':=.cells [int o,int n,.sl 1 [],.sl 1 (pC (done.map LTr.id)),.sl 2 []]) (R:=objss done) (fun p hp=>hd1.own p (List.mem_cons_of_mem _ hp)) (List.nodup_cons.1 hd1.nd).2 hd1.ok (by simp[Qh2 isO (fun _=>trivial)])
    have hfin:UpdL ou L0 (updO (updO ov a .dead) id (.cells [int o,int n,.sl 1 [],.sl 1 (pC (done.map LTr.id)),.sl 2 []])) (objs (.mk id o n none [] done [])):=by
     refine hU.trans ((hd1.trans (hd2.mono (M:=(a,.dead)::(id,nFt o n (some (a,cap)) (kFt ks))::objss done) (fun k hk=>?_) (fun p hp=>hp) hd2.nd)).mono (fun k hk=>?_) (fun p hp=>?_) (Q1u (fun k=>?_) hd2.nd))
     ·simp only[keys,List.map_cons,List.mem_cons]at hk ⊢;exact .inr hk
     ·simp only[keys,List.map_cons,List.mem_cons]at hk ⊢
      rcases hk with hk|hk|hk
      ·exact .inr (.inl hk)
      ·exact .inl hk
      ·exact .inr (.inr hk)
     ·simpa[Q2e,bO,bC,aO,kC_pC]using hp
     ·simp[Q2e,bO,aO,keys]
    have hek:erTs done=Q5f (hNo fo) (fdFo fo) (erFts ks):=by
     rw[hde,List.take_of_length_le (by rw[Q7y,Q40];simp)]
    refine zA ?_
    refine ACode.cond rfl (fun hb=>?_) (fun hb=>?_)
    ·exfalso;simp[Q4t]at hb
    refine zA ?_
    refine AFn.fin' rfl (WkF.ofEq rfl) (by simp[FV.ids,idsF]) hfin.ok ⟨rfl,.mk id o n none [] done [],rfl,by simp only[erT,erFt,fillK,hek,List.map_nil],fun h=>⟨rfl,(fun x hx=>by cases hx),hdp h⟩,?_⟩
    rw[←hL0]
    exact hfin
end Go.Proofs.YthboaankaaeemaaDoor
