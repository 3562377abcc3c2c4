/- Core expressions as plain data: an expression in order is the same expression. No condition. -/
import Derived.Test.YthboaankaaeemaaDoorC5
set_option maxRecDepth 10000
set_option linter.unusedVariables false
set_option linter.unusedSimpArgs false
namespace Go.CoreX
structure Lab where
 op:Int
 n:Int
 binds:List Int
 ops:List Int
 alts:List Alt
 deriving DecidableEq
mutual
def sumT (g:Lab->Int):Tr->Int
 |.mk o n b k a=>g ⟨o,n,b,k.map Tr.op,a⟩+sumTs g k
def sumTs (g:Lab->Int):List Tr->Int
 |[]=>0
 |t::ts=>sumT g t+sumTs g ts
end
def mx (m d:Int):Int:=if d > m then d else m
mutual
def Q25:Tr->Int
 |.mk _ _ _ k _=>(Q4m k).foldl mx 0+1
def Q4m:List Tr->List Int
 |[]=>[]
 |t::ts=>Q25 t::Q4m ts
end
theorem Q6s:∀l:List Tr,Q4m l=l.map Q25
 |[]=>rfl
 |t::ts=>by simp[Q4m,Q6s ts]
theorem Qan(g:Lab->Int):∀l:List Tr,sumTs g l=(l.map (sumT g)).sum
 |[]=>rfl
 |t::ts=>by simp[sumTs,Qan g ts]
theorem Q2e(e:List Ex)(x:Ex):growL (e++[x])=growL e++[Q30 (growL e) x]:=by simp[growL,Qfp]
theorem Q5j{α:Type}{P:List α->Prop}(h0:P [])(h1:∀l x,P l->P (l++[x]))(l:List α):P l:=by
 have:∀l:List α,P l.reverse:=by
  intro l
  induction l with
  |nil=>exact h0
  |cons a l ih=>rw[List.reverse_cons];exact h1 _ _ ih
 simpa using this l.reverse
theorem Q1j(e:List Ex):(growL e).length=e.length:=by
 refine Q5j (P:=fun e=>(growL e).length=e.length) rfl (fun l x ih=>?_) e
 rw[Q2e];simp[ih]
theorem Qje(e l:List Ex):∃r,growL (e++l)=growL e++r:=by
 refine Q5j (P:=fun l=>∃r,growL (e++l)=growL e++r) ⟨[],by simp⟩ (fun l x ih=>?_) l
 obtain⟨r,h⟩:=ih
 exact⟨r++[Q30 (growL (e++l)) x],by rw[←List.append_assoc,Q2e,h];simp⟩
theorem Q7e{α:Type}{l r:List α}{i:Nat}{d:α}(h:i < l.length):(l++r).getD i d=l.getD i d:=by
 simp[List.getD,List.getElem?_append_left h]
theorem Q4l{e l:List Ex}{i:Nat}(h:i < e.length):(growL (e++l)).getD i default=(growL e).getD i default:=by
 obtain⟨r,hr⟩:=Qje e l
 rw[hr,Q7e (by rw[Q1j];exact h)]
theorem Q7d(e l:List Ex)(x:Ex):(growL (e++x::l)).getD e.length default=Q30 (growL e) x:=by
 rw[show e++x::l=(e++[x])++l by simp,Q4l (by simp),Q2e]
 simp[List.getD,Q1j]
theorem Qjd(e:List Ex)(x:Ex):grow (e++[x])=Q30 (growL e) x:=by
 unfold grow
 have:=Q7d e [] x
 simpa using this
def cnt:List Ex->Nat->Nat
 |[],_=>0
 |x::e,i=>x.kids.count (i:Int)+cnt e i
theorem Qdw(e l:List Ex)(i:Nat):cnt (e++l) i=cnt e i+cnt l i:=by
 induction e with
 |nil=>simp[cnt]
 |cons x e ih=>simp[cnt,ih,Nat.add_assoc]
def Q0v (e:List Ex):Prop:=∀(j:Nat)(x:Ex),e[j]?=some x->∀k∈x.kids,0<=k/\k < (j:Int)
theorem Q39{e:List Ex}{x:Ex}:Q0v (e++[x])↔Q0v e/\∀k∈x.kids,0<=k/\k < e.length:=by
 constructor
 ·intro h
  refine⟨fun j y hj=>h j y ?_,?_⟩
  ·rw[List.getElem?_append_left (List.getElem?_eq_some_iff.1 hj).1];exact hj
  ·exact h e.length x (by simp)
 ·intro ⟨h1,h2⟩ j y hj
  by_cases hl:j < e.length
  ·rw[List.getElem?_append_left hl]at hj;exact h1 j y hj
  ·rw[List.getElem?_append_right (by omega)]at hj
   have:j=e.length:=by
    have:=(List.getElem?_eq_some_iff.1 hj).1
    simp at this;omega
   subst this
   simp at hj;subst hj;exact h2
theorem Qgo{e l:List Ex}(h:Q0v (e++l)):Q0v e:=fun j y hj=>h j y (by
 rw[List.getElem?_append_left (List.getElem?_eq_some_iff.1 hj).1];exact hj)

structure Run (pre:List Ex)(N:Nat)(d p:List Int):Prop where
 dl:d.length=N
 pl:p.length=N
 pv:∀i,i < N->p.getD i 0=cnt pre i
 dv:∀i,i < pre.length->d.getD i 0=Q25 ((growL pre).getD i default)
 d0:∀i,pre.length<=i->d.getD i 0=0
theorem Q3e(i:Nat):∀ks:List Int,ks.foldl (Q1e i) none=none
 |[]=>rfl
 |k::ks=>by rw[List.foldl_cons];exact Q3e i ks
theorem Q41{l:List Int}{i:Nat}{v:Int}(h:i < l.length):(l.set i v).getD i 0=v:=by simp[List.getD,h]
theorem getD_set_ne{l:List Int}{i j:Nat}{v:Int}(h:i≠j):(l.set i v).getD j 0=l.getD j 0:=by simp[List.getD,List.getElem?_set_ne h]
theorem Qkh{l:List Int}{i:Nat}(h:i < l.length):l.set i (l.getD i 0)=l:=by
 apply List.ext_getElem?
 intro j
 by_cases hj:i=j
 ·subst hj;simp[h,List.getD,List.getElem?_eq_getElem h]
 ·rw[List.getElem?_set_ne hj]
theorem Qff{i N:Nat}:∀(ks:List Int)(d p:List Int),d.length=N->p.length=N->i < N->(∀k∈ks,0<=k/\k < i)->
  ∃p',ks.foldl (Q1e i) (some (d,p))=some (d.set i (ks.foldl (fun m k=>mx m (d.getD k.toNat 0)) (d.getD i 0)),p')/\p'.length=N/\∀j,j < N->p'.getD j 0=p.getD j 0+ks.count (j:Int)
 | [], d, p, hd, hp, hi, _ => ⟨p, by rw [List.foldl_nil, List.foldl_nil, Qkh (show i < d.length by omega)], hp, by simp⟩
 |k::ks,d,p,hd,hp,hi,hk=>by
  obtain⟨k0,k1⟩:=hk k (by simp)
  have hks:∀k∈ks,0<=k/\k < i:=fun y hy=>hk y (by simp[hy])
  obtain⟨p',h1,h2,h3⟩:=Qff ks (d.set i (mx (d.getD i 0) (d.getD k.toNat 0))) (p.set k.toNat (p.getD k.toNat 0+1)) (by simpa using hd) (by simpa using hp) hi hks
  refine⟨p',?_,h2,fun j hj=>?_⟩
  ·rw[List.foldl_cons]
   have e1:Q1e i (some (d,p)) k=some (d.set i (mx (d.getD i 0) (d.getD k.toNat 0)),p.set k.toNat (p.getD k.toNat 0+1)):=by
    simp only[Q1e,Option.bind_some,mx]
    rw[if_neg (by omega)]
   rw[e1,h1,List.set_set,Q41 (by omega),List.foldl_cons]
   congr 2
   have:∀(l:List Int) (m:Int),(∀k∈l,0<=k/\k < i)->l.foldl (fun m k'=>mx m ((d.set i (mx (d.getD i 0) (d.getD k.toNat 0))).getD k'.toNat 0)) m=l.foldl (fun m k'=>mx m (d.getD k'.toNat 0)) m:=by
    intro l
    induction l with
    |nil=>intro m _;rfl
    |cons y l ih=>
     intro m hl
     have hy:=hl y (by simp)
     simp only[List.foldl_cons]
     rw[getD_set_ne (by omega),ih _ (fun z hz=>hl z (by simp[hz]))]
   rw[this ks _ hks]
  ·rw[h3 j hj,List.count_cons]
   by_cases hkj:k.toNat=j
   ·subst hkj
    rw[Q41 (by omega)]
    have:(k==((k.toNat:Nat):Int))=true:=by simp;omega
    rw[if_pos this];omega
   ·rw[getD_set_ne hkj]
    have:¬(k==(j:Int))=true:=by simp;omega
    rw[if_neg this];omega
theorem Qfg{i N:Nat}:∀(ks:List Int)(d p:List Int),¬(∀k∈ks,0<=k/\k < i)->ks.foldl (Q1e i) (some (d,p))=none
 | [], d, p, h => absurd (by simp) h
 |k::ks,d,p,h=>by
  rw[List.foldl_cons]
  by_cases hk:0<=k/\k < i
  ·have e1:Q1e i (some (d,p)) k=some (d.set i (mx (d.getD i 0) (d.getD k.toNat 0)),p.set k.toNat (p.getD k.toNat 0+1)):=by
    simp only[Q1e,Option.bind_some,mx]
    rw[if_neg (by omega)]
   rw[e1]
   refine Qfg (N:=N) ks _ _ fun h2=>h ?_
   intro y hy
   rcases List.mem_cons.1 hy with rfl|hy
   ·exact hk
   ·exact h2 y hy
  ·have e1:Q1e i (some (d,p)) k=none:=by
    simp only[Q1e,Option.bind_some]
    rw[if_pos (by omega)]
   rw[e1,Q3e]
theorem Qa5(f:Int->Int):∀(l:List Int)(m:Int),l.foldl (fun m k=>mx m (f k)) m=(l.map f).foldl mx m
 |[],_=>rfl
 |k::l,m=>by simp[Qa5 f l]
theorem Qbi(ts:List Tr)(x:Ex):Q25 (Q30 ts x)=(x.kids.map fun k=>Q25 (ts.getD k.toNat default)).foldl mx 0+1:=by
 simp only[Q30,Q25,Q6s,List.map_map];rfl
theorem Run.step{pre:List Ex}{N:Nat}{d p:List Int}{x:Ex}(h:Run pre N d p)(hN:pre.length < N)(hk:∀k∈x.kids,0<=k/\k < pre.length):∃d' p',Q1q (some (d,p)) (x,pre.length)=some (d',p')/\Run (pre++[x]) N d' p':=by
 obtain⟨p',h1,h2,h3⟩:=Qff x.kids d p h.dl h.pl hN hk
 have hdl:=h.dl
 refine⟨_,p',by simp only[Q1q,h1,Option.map_some];rfl,by simpa using hdl,h2,fun i hi=>?_,fun i hi=>?_,fun i hi=>?_⟩
 ·rw[h3 i hi,h.pv i hi,Qdw];simp[cnt]
 ·rw[List.set_set]
  simp only[List.length_append,List.length_singleton]at hi
  by_cases e:pre.length=i
  ·subst e
   rw[Q41 (by omega),Q41 (by omega),Q7d pre [] x,Qbi,h.d0 _ (Nat.le_refl _),Qa5]
   congr 2
   refine List.map_congr_left fun k hk2=>?_
   have:=hk k hk2
   exact h.dv _ (by omega)
  ·rw[getD_set_ne e,Q4l (by omega),h.dv i (by omega)]
 ·simp only[List.length_append,List.length_singleton]at hi
  rw[List.set_set,getD_set_ne (by omega),h.d0 i (by omega)]
theorem Q5q(l:List (Ex×Nat)):l.foldl Q1q none=none:=by
 induction l with
 |nil=>rfl
 |cons x l ih=>
  have:Q1q none x=none:=by simp[Q1q,Q3e]
  rw[List.foldl_cons,this,ih]
theorem Qeh{N:Nat}:∀(l pre:List Ex)(d p:List Int),Run pre N d p->Q0v pre->pre.length+l.length=N ->
  (Q0v (pre ++ l) /\ ∃ d' p', (l.zipIdx pre.length).foldl Q1q (some (d, p)) = some (d', p') /\ Run (pre ++ l) N d' p') ∨ (¬ Q0v (pre ++ l) /\ (l.zipIdx pre.length).foldl Q1q (some (d, p)) = none)
 |[],pre,d,p,h,hk,_=>.inl ⟨by simpa using hk,d,p,rfl,by simpa using h⟩
 |x::l,pre,d,p,h,hk,hN=>by
  rw[List.zipIdx_cons,List.foldl_cons]
  simp only[List.length_cons]at hN
  by_cases hx:∀k∈x.kids,0<=k/\k < pre.length
  ·obtain⟨d1,p1,e1,h1⟩:=h.step (by omega) hx
   rw[e1]
   have:=Qeh l (pre++[x]) d1 p1 h1 (Q39.2 ⟨hk,hx⟩) (by simp;omega)
   simpa[List.append_assoc]using this
  ·right
   have e1:Q1q (some (d,p)) (x,pre.length)=none:=by simp only[Q1q,Qfg (N:=N) x.kids d p hx,Option.map_none]
   rw[e1,Q5q]
   refine⟨fun h2=>hx ?_,rfl⟩
   exact h2 pre.length x (by simp)
theorem Qbr(e:List Ex):(Q0v e/\∃d p,Q49 e=some (d,p)/\Run e e.length d p)∨(¬Q0v e/\Q49 e=none):=by
 have h0:Run [] e.length (List.replicate e.length 0) (List.replicate e.length 0):=by
  have z:∀i,(List.replicate e.length (0:Int)).getD i 0=0:=fun i=>by
   simp only[List.getD]
   rw[List.getElem?_replicate];split <;> rfl
  exact⟨by simp,by simp,fun i _=>by rw[z];rfl,fun i hi=>by simp at hi,fun i _=>z i⟩
 have:=Qeh e [] _ _ h0 (fun j x hj=>by simp at hj) (by simp)
 simpa[Q49]using this
structure IsTree (e:List Ex):Prop where
 ne:e≠[]
 k:Q0v e
 c:∀i,i < e.length->(cnt e i=1↔i+1 < e.length)
theorem Q1d(e:List Ex):Q1n e=0↔e.length<=4096/\IsTree e/\Q25 (grow e)<=400:=by
 unfold Q1n
 by_cases h1:4096 < e.length
 ·rw[if_pos h1];exact⟨fun h=>absurd h (by decide),fun h=>by omega⟩
 rw[if_neg h1]
 by_cases h2:e.length=0
 ·rw[if_pos h2]
  exact⟨fun h=>absurd h (by decide),fun h=>absurd (List.length_eq_zero_iff.1 h2) h.2.1.ne⟩
 rw[if_neg h2]
 rcases Qbr e with ⟨hk,d,p,h3,hr⟩|⟨hk,h3⟩
 ·rw[h3]
  have hd:d.getD (e.length - 1) 0=Q25 (grow e):=hr.dv _ (by omega)
  have hodd:(List.range e.length).any (Q22 e.length p)=true↔¬∀i,i < e.length->(cnt e i=1↔i+1 < e.length):=by
   rw[List.any_eq_true]
   constructor
   ·rintro⟨i,hi,hb⟩ h
    have hi':i < e.length:=by simpa using hi
    have:=h i hi'
    have hc:=hr.pv i hi'
    simp only[Q22,Bool.not_eq_true',beq_eq_false_iff_ne,ne_eq]at hb
    apply hb
    rw[Bool.eq_iff_iff,beq_iff_eq,decide_eq_true_iff,hc]
    omega
   ·intro h
    simp only[Classical.not_forall]at h
    obtain⟨i,hi,hne⟩:=h
    refine⟨i,by simpa using hi,?_⟩
    have hc:=hr.pv i hi
    simp only[Q22,Bool.not_eq_true',beq_eq_false_iff_ne,ne_eq]
    intro hb
    rw[Bool.eq_iff_iff,beq_iff_eq,decide_eq_true_iff,hc]at hb
    apply hne
    omega
  simp only
  by_cases h4:(List.range e.length).any (Q22 e.length p)=true
  ·rw[if_pos h4]
   exact⟨fun h=>absurd h (by decide),fun h=>absurd h.2.1.c (hodd.1 h4)⟩
  ·rw[if_neg h4,hd]
   have hc:∀i,i < e.length->(cnt e i=1↔i+1 < e.length):=by
    apply Classical.byContradiction
    intro hn
    exact h4 (hodd.2 hn)
   by_cases h5:400 < Q25 (grow e)
   ·rw[if_pos h5];exact⟨fun h=>absurd h (by decide),fun h=>by omega⟩
   ·rw[if_neg h5]
    exact⟨fun _=>⟨by omega,⟨fun h=>h2 (by simp[h]),hk,hc⟩,by omega⟩,fun _=>rfl⟩
 ·rw[h3]
  simp only
  exact⟨fun h=>absurd h (by decide),fun h=>absurd h.2.1.k hk⟩

def wsum (c:Nat->Int):Nat->List Int->Int
 |_,[]=>0
 |j,v::vs=>c j * v+wsum c (j+1) vs
theorem Qal(c:Nat->Int):∀(vs us:List Int)(j:Nat),wsum c j (vs++us)=wsum c j vs+wsum c (j+vs.length) us
 |[],us,j=>by simp[wsum]
 |v::vs,us,j=>by
  simp only[List.cons_append,wsum,Qal c vs us,List.length_cons]
  rw[show j+1+vs.length=j+(vs.length+1) by omega];omega
theorem Q66{c c':Nat->Int}:∀(vs:List Int)(j:Nat),(∀i,j<=i->i < j+vs.length->c i=c' i)->wsum c j vs=wsum c' j vs
 |[],_,_=>rfl
 |v::vs,j,h=>by
  simp only[wsum]
  rw[h j (by omega) (by simp),Q66 vs (j+1) (fun i h1 h2=>h i (by omega) (by simp;omega))]
theorem Qe7(c c':Nat->Int):∀(vs:List Int)(j:Nat),wsum (fun i=>c i - c' i) j vs=wsum c j vs - wsum c' j vs
 |[],_=>by simp[wsum]
 |v::vs,j=>by
  simp only[wsum,Qe7 c c' vs,Int.sub_mul];omega
theorem Qe9(c c':Nat->Int):∀(vs:List Int)(j:Nat),wsum (fun i=>c i+c' i) j vs=wsum c j vs+wsum c' j vs
 |[],_=>by simp[wsum]
 |v::vs,j=>by
  simp only[wsum,Qe9 c c' vs,Int.add_mul];omega
theorem Q5c{c:Nat->Int}:∀(vs:List Int)(j:Nat),(∀i,j<=i->i < j+vs.length->c i=0)->wsum c j vs=0
 |[],_,_=>rfl
 |v::vs,j,h=>by
  simp only[wsum]
  rw[h j (by omega) (by simp),Q5c vs (j+1) (fun i h1 h2=>h i (by omega) (by simp;omega))];omega
theorem Qe8(k:Int):∀(vs:List Int)(j:Nat),(j:Int)<=k->k < j+vs.length->wsum (fun i=>if k=(i:Int)then 1 else 0) j vs=vs.getD (k.toNat - j) 0
 |[],j,h1,h2=>by simp at h2;omega
 |v::vs,j,h1,h2=>by
  simp only[wsum]
  by_cases e:k=j
  ·subst e
   rw[Q5c vs (j+1) (fun i h3 h4=>if_neg (by omega))]
   simp[List.getD]
  ·rw[if_neg e,Qe8 k vs (j+1) (by omega) (by simp at h2;omega)]
   rw[show k.toNat - j=(k.toNat - (j+1))+1 by omega]
   simp[List.getD]
theorem Q99(vs:List Int):∀ks:List Int,(∀k∈ks,0<=k/\k < vs.length)->wsum (fun i=>((ks.count (i:Int):Nat):Int)) 0 vs=(ks.map fun k=>vs.getD k.toNat 0).sum
 |[],_=>by simp;exact Q5c vs 0 (fun _ _ _=>by simp)
 |k::ks,h=>by
  have hk:=h k (by simp)
  have e:wsum (fun i=>(((k::ks).count (i:Int):Nat):Int)) 0 vs=wsum (fun i=>(if k=(i:Int)then 1 else 0)+((ks.count (i:Int):Nat):Int)) 0 vs:=by
   refine Q66 vs 0 fun i _ _=>?_
   rw[List.count_cons]
   by_cases e:k=(i:Int)
   ·simp[e];omega
   ·simp[e]
  rw[e,Qe9,Qe8 k vs 0 (by omega) (by omega),Q99 vs ks (fun y hy=>h y (by simp[hy]))]
  simp
def labE (e:List Ex)(x:Ex):Lab:=⟨x.op,x.n,x.binds,x.kids.map (fun k=>((growL e).getD k.toNat default).op),x.alts⟩
def labs (e:List Ex):List Lab:=e.map (labE e)
theorem Qix{e:List Ex}{x:Ex}(h:Q0v (e++[x])):labs (e++[x])=labs e++[labE e x]:=by
 obtain⟨h1,h2⟩:=Q39.1 h
 have same:∀y:Ex,(∀k∈y.kids,0<=k/\k < e.length)->labE (e++[x]) y=labE e y:=by
  intro y hy
  simp only[labE,Lab.mk.injEq,true_and,and_true]
  refine List.map_congr_left fun k hk=>?_
  have:=hy k hk
  rw[Q4l (by omega)]
 simp only[labs,List.map_append,List.map_cons,List.map_nil]
 rw[same x h2]
 congr 1
 refine List.map_congr_left fun y hy=>same y fun k hk=>?_
 obtain⟨j,hj⟩:=List.mem_iff_getElem?.1 hy
 have:=h1 j y hj k hk
 have hl:=(List.getElem?_eq_some_iff.1 hj).1
 omega
theorem Qd8(g:Lab->Int)(e:List Ex)(x:Ex):sumT g (Q30 (growL e) x)=g (labE e x)+(x.kids.map fun k=>sumT g ((growL e).getD k.toNat default)).sum:=by
 simp only[Q30,sumT,Qan,labE,List.map_map];rfl
theorem sum_pre(g:Lab->Int)(e:List Ex)(h:Q0v e):wsum (fun i=>1 - (cnt e i:Int)) 0 ((growL e).map (sumT g))=((labs e).map g).sum:=by
 revert h
 refine Q5j (P:=fun e=>Q0v e->wsum (fun i=>1 - (cnt e i:Int)) 0 ((growL e).map (sumT g))=((labs e).map g).sum) (fun _=>rfl) (fun e x ih h=>?_) e
 obtain⟨h1,h2⟩:=Q39.1 h
 have ih:=ih h1
 have hlen:((growL e).map (sumT g)).length=e.length:=by simp[Q1j]
 have hz:cnt (e++[x]) e.length=0:=by
  have:∀(l:List Ex) (n:Nat),(∀y∈l,∀k∈y.kids,k < (n:Int))->cnt l n=0:=by
   intro l
   induction l with
   |nil=>intro n _;rfl
   |cons y l ih2=>
    intro n hl
    simp only[cnt]
    rw[ih2 n (fun z hz=>hl z (by simp[hz])),Nat.add_zero,List.count_eq_zero]
    intro hm
    have:=hl y (by simp) _ hm
    omega
  refine this _ _ fun y hy k hk=>?_
  obtain⟨j,hj⟩:=List.mem_iff_getElem?.1 hy
  have:=h j y hj k hk
  have hl:=(List.getElem?_eq_some_iff.1 hj).1
  simp at hl
  omega
 rw[Q2e,List.map_append,Qal,hlen,Qix h,List.map_append,List.sum_append,←ih]
 simp only[List.map_cons,List.map_nil,wsum,Nat.zero_add,hz,List.sum_cons,List.sum_nil,Qd8]
 have e1:wsum (fun i=>1 - (cnt (e++[x]) i:Int)) 0 ((growL e).map (sumT g))=wsum (fun i=>(1 - (cnt e i:Int)) - ((x.kids.count (i:Int):Nat):Int)) 0 ((growL e).map (sumT g)):=by
  refine Q66 _ 0 fun i _ _=>?_
  rw[Qdw];simp[cnt];omega
 rw[e1,Qe7,Q99 _ _ (fun k hk=>by rw[hlen];exact h2 k hk)]
 have e2:(x.kids.map fun k=>((growL e).map (sumT g)).getD k.toNat 0)=x.kids.map fun k=>sumT g ((growL e).getD k.toNat default):=by
  refine List.map_congr_left fun k hk=>?_
  have:=h2 k hk
  have hl:k.toNat < (growL e).length:=by rw[Q1j];omega
  simp[List.getD,List.getElem?_eq_getElem hl]
 rw[e2]
 omega
theorem Qly{e:List Ex}(h:Q0v e){n:Nat}(hn:e.length<=n+1):cnt e n=0:=by
 have:∀(l:List Ex),(∀y∈l,∀k∈y.kids,k < (n:Int))->cnt l n=0:=by
  intro l
  induction l with
  |nil=>intro _;rfl
  |cons y l ih2=>
   intro hl
   simp only[cnt]
   rw[ih2 (fun z hz=>hl z (by simp[hz])),Nat.add_zero,List.count_eq_zero]
   intro hm
   have:=hl y (by simp) _ hm
   omega
 refine this _ fun y hy k hk=>?_
 obtain⟨j,hj⟩:=List.mem_iff_getElem?.1 hy
 have:=h j y hj k hk
 have hl:=(List.getElem?_eq_some_iff.1 hj).1
 omega
theorem Q3v(g:Lab->Int){e:List Ex}(h:IsTree e):((labs e).map g).sum=sumT g (grow e):=by
 rw[←sum_pre g e h.k]
 obtain⟨pre,x,rfl⟩:∃pre x,e=pre++[x]:=⟨e.dropLast,e.getLast h.ne,(List.dropLast_concat_getLast h.ne).symm⟩
 rw[Q2e,List.map_append,Qal]
 rw[Q5c _ 0 (fun i _ hi=>?_),Qjd]
 ·simp only[List.map_cons,List.map_nil,wsum,List.length_map,Q1j,Nat.zero_add]
  rw[Qly h.k (by simp)];omega
 ·have hi:i < pre.length:=by simpa[Q1j]using hi
  have:=(h.c i (by simp;omega)).2 (by simp;omega)
  rw[this];rfl
end Go.CoreX
namespace Go.CoreX
structure OkT (out:List Ex)(t:Tr):Prop where
 lt:out.length < (listT out t).length
 k:Q0v (listT out t)
 g:∃r,growL (listT out t)=growL out++r++[t]
 c:∀i,cnt (listT out t) i=cnt out i+if out.length<=i/\i+1 < (listT out t).length then 1 else 0
structure OkTs (out:List Ex)(ts:List Tr):Prop where
 le:out.length<=(Q02 out ts).1.length
 k:Q0v (Q02 out ts).1
 g:∃r,growL (Q02 out ts).1=growL out++r
 ix:∀k∈(Q02 out ts).2,(out.length:Int)<=k/\k < (Q02 out ts).1.length
 m:(Q02 out ts).2.map (fun k=>(growL (Q02 out ts).1).getD k.toNat default)=ts
 c:∀i,cnt (Q02 out ts).1 i+(Q02 out ts).2.count (i:Int)=cnt out i+if out.length<=i/\i < (Q02 out ts).1.length then 1 else 0
mutual
theorem Qb5:∀(t:Tr)(out:List Ex),Q0v out->OkT out t
 |.mk o n b ks a,out,h=>by
  have H:=Qcf ks out h
  have e:listT out (.mk o n b ks a)=(Q02 out ks).1++[⟨o,n,b,(Q02 out ks).2,a⟩]:=by simp only[listT]
  refine⟨?_,?_,?_,fun i=>?_⟩
  ·rw[e];have:=H.le;simp;omega
  ·rw[e,Q39]
   refine⟨H.k,fun k hk=>?_⟩
   have:=H.ix k hk
   exact⟨by omega,this.2⟩
  ·obtain⟨r,hr⟩:=H.g
   refine⟨r,?_⟩
   rw[e,Q2e]
   have:Q30 (growL (Q02 out ks).1) ⟨o,n,b,(Q02 out ks).2,a⟩=.mk o n b ks a:=by
    simp only[Q30,Tr.mk.injEq,true_and,and_true];exact H.m
   rw[this,hr]
  ·rw[e,Qdw]
   have:=H.c i
   simp only[cnt,Nat.add_zero,List.length_append,List.length_singleton]
   rw[this]
   congr 1
   by_cases h1:out.length<=i/\i < (Q02 out ks).1.length
   ·rw[if_pos h1,if_pos (by omega)]
   ·rw[if_neg h1,if_neg (by omega)]
theorem Qcf:∀(ts:List Tr)(out:List Ex),Q0v out->OkTs out ts
 |[],out,h=>⟨by simp[Q02],by simpa[Q02]using h,⟨[],by simp[Q02]⟩,by simp[Q02],by simp[Q02],fun i=>by
   have e1:(Q02 out []).1=out:=by simp only[Q02]
   have e2:(Q02 out []).2=[]:=by simp only[Q02]
   rw[e1,e2,if_neg (by omega)];rfl⟩
 |t::ts,out,h=>by
  have H1:=Qb5 t out h
  have H2:=Qcf ts (listT out t) H1.k
  have e1:(Q02 out (t::ts)).1=(Q02 (listT out t) ts).1:=by simp only[Q02]
  have e2:(Q02 out (t::ts)).2=(((listT out t).length:Int) - 1)::(Q02 (listT out t) ts).2:=by simp only[Q02]
  have l1:=H1.lt
  have l2:=H2.le
  obtain⟨r1,g1⟩:=H1.g
  obtain⟨r2,g2⟩:=H2.g
  refine⟨by rw[e1];omega,by rw[e1];exact H2.k,⟨r1++[t]++r2,?_⟩,?_,?_,fun i=>?_⟩
  ·rw[e1,g2,g1];simp
  ·intro k hk
   rw[e2]at hk
   rw[e1]
   rcases List.mem_cons.1 hk with rfl|hk
   ·omega
   ·have:=H2.ix k hk;omega
  ·rw[e1,e2,List.map_cons,H2.m]
   congr 1
   have hl:(growL (listT out t)).length=(listT out t).length:=Q1j _
   have hl2:(growL out++r1).length+1=(listT out t).length:=by rw[←hl,g1];simp;omega
   rw[g2,Q7e (by rw[hl];omega),g1]
   have:((((listT out t).length:Int) - 1)).toNat=(growL out++r1).length:=by omega
   rw[this]
   simp[List.getD]
  ·rw[e1,e2,List.count_cons]
   have c2:=H2.c i
   have c1:=H1.c i
   have hh:(((((listT out t).length:Int) - 1)==(i:Int))=true)↔i+1=(listT out t).length:=by
    rw[beq_iff_eq];omega
   by_cases h1:i+1=(listT out t).length
   ·rw[if_pos (hh.2 h1)]
    rw[if_neg (by omega)]at c2
    rw[if_neg (by omega)]at c1
    rw[if_pos (by omega)]
    omega
   ·rw[if_neg (fun h=>h1 (hh.1 h))]
    by_cases h2:out.length<=i/\i+1 < (listT out t).length
    ·rw[if_pos h2]at c1
     rw[if_neg (by omega)]at c2
     rw[if_pos (by omega)]
     omega
    ·rw[if_neg h2]at c1
     by_cases h3:(listT out t).length<=i/\i < (Q02 (listT out t) ts).1.length
     ·rw[if_pos h3]at c2
      rw[if_pos (by omega)]
      omega
     ·rw[if_neg h3]at c2
      rw[if_neg (by omega)]
      omega
end
theorem Q9y:Q0v []:=fun j x hj=>by simp at hj
theorem Q2n(t:Tr):grow (listT [] t)=t:=by
 have H:=Qb5 t [] Q9y
 obtain⟨r,hr⟩:=H.g
 have hl:(growL (listT [] t)).length=(listT [] t).length:=Q1j _
 unfold grow
 rw[hr]at hl ⊢
 have:(listT [] t).length - 1=(growL []++r).length:=by simp at hl ⊢;omega
 rw[this]
 simp[List.getD]
theorem Q1f(t:Tr):IsTree (listT [] t):=by
 have H:=Qb5 t [] Q9y
 refine⟨fun h=>?_,H.k,fun i hi=>?_⟩
 ·have:=H.lt;rw[h]at this;simp at this
 ·rw[H.c i]
  simp only[cnt,List.length_nil,Nat.zero_le,true_and,Nat.zero_add]
  split <;> omega
theorem Qhk(ls:List Lab)(l0:Lab):(ls.map fun l=>if l=l0 then (1:Int)else 0).sum=ls.count l0:=by
 induction ls with
 |nil=>rfl
 |cons l ls ih=>
  simp only[List.map_cons,List.sum_cons,ih,List.count_cons]
  by_cases e:l=l0
  ·simp[e];omega
  ·simp[e]
theorem Q86{e f:List Ex}(he:IsTree e)(hf:IsTree f)(h:grow e=grow f):(labs e).Perm (labs f):=by
 rw[List.perm_iff_count]
 intro l0
 have h1:=Q3v (fun l=>if l=l0 then (1:Int)else 0) he
 have h2:=Q3v (fun l=>if l=l0 then (1:Int)else 0) hf
 rw[Qhk]at h1 h2
 rw[h]at h1
 omega
theorem Q4x(e:List Ex):(labs e).length=e.length:=by simp[labs]
theorem Qii(e:List Ex):∀i,i < e.length->((growL e).getD i default).op=(e.getD i ⟨0,0,[],[],[]⟩).op:=by
 refine Q5j (P:=fun e=>∀i,i < e.length->((growL e).getD i default).op=(e.getD i ⟨0,0,[],[],[]⟩).op) (fun i hi=>by simp at hi) (fun e x ih i hi=>?_) e
 by_cases h:i < e.length
 ·rw[Q4l h,ih i h,Q7e h]
 ·have:i=e.length:=by simp at hi;omega
  subst this
  rw[Q7d e [] x]
  simp[Q30,List.getD]
theorem Qhr{o n:Int}{b kx ky:List Int}{a:List Alt}(h:kx.length=ky.length):shape ⟨o,n,b,kx,a⟩=shape ⟨o,n,b,ky,a⟩:=by
 unfold shape wants Q3s Q3i
 simp only[h]
theorem Qga{o n:Int}{b kx ky:List Int}{a:List Alt}(h:kx.length=ky.length):ranges ⟨o,n,b,kx,a⟩=ranges ⟨o,n,b,ky,a⟩:=by
 unfold ranges fields
 simp only[h]
theorem Q9e{x:Ex}(h:shape x=true)(h5:x.op=5):x.kids.length=x.binds.length+1:=by
 unfold shape wants at h
 simp[h5]at h
 omega
theorem Q71{flat:Bool}{e f:List Ex}{x y:Ex}(hx:∀k∈x.kids,0<=k/\k < (e.length:Int))(hy:∀k∈y.kids,0<=k/\k < (f.length:Int))(h:labE e x=labE f y):Q0d flat e x=Q0d flat f y:=by
 obtain⟨o,n,b,kx,a⟩:=x
 obtain⟨o',n',b',ky,a'⟩:=y
 simp only[labE,Lab.mk.injEq]at h
 obtain⟨rfl,rfl,rfl,hk,rfl⟩:=h
 have hl:kx.length=ky.length:=by have:=congrArg List.length hk;simpa using this
 unfold Q0d Q1o
 rw [Qhr hl, Qga hl]
 cases hs:shape ⟨o,n,b,ky,a⟩ with
 |false=>simp
 |true=>
  have hb:(List.range b.length).any (Q1i e ⟨o,n,b,kx,a⟩)=(List.range b.length).any (Q1i f ⟨o,n,b,ky,a⟩):=by
   rw[Bool.eq_iff_iff,List.any_eq_true,List.any_eq_true]
   have key:∀i,i < b.length->Q1i e ⟨o,n,b,kx,a⟩ i=Q1i f ⟨o,n,b,ky,a⟩ i:=by
    intro i hi
    unfold Q1i
    by_cases h5:o=5
    ·have hr:=Q9e hs h5
     simp only at hr
     obtain⟨k,h1⟩:∃k,kx[i]?=some k:=⟨kx[i]'(by omega),List.getElem?_eq_getElem _⟩
     obtain⟨m,h2⟩:∃k,ky[i]?=some k:=⟨ky[i]'(by omega),List.getElem?_eq_getElem _⟩
     have k1:=hx k (List.mem_of_getElem? h1)
     have k2:=hy m (List.mem_of_getElem? h2)
     have h3:=congrArg (fun l=>l[i]?) hk
     simp only[List.getElem?_map,h1,h2,Option.map_some,Option.some.injEq]at h3
     rw[Qii e _ (by omega),Qii f _ (by omega)]at h3
     have e1:kx.getD i 0=k:=by rw[List.getD_eq_getElem?_getD,h1];rfl
     have e2:ky.getD i 0=m:=by rw[List.getD_eq_getElem?_getD,h2];rfl
     simp only[e1,e2,h3]
    ·have:(o==5)=false:=by simpa using h5
     simp only[this,Bool.false_and]
   constructor
   ·rintro⟨i,hi,hb⟩;exact⟨i,hi,by rw[←key i (by simpa using hi)];exact hb⟩
   ·rintro⟨i,hi,hb⟩;exact⟨i,hi,by rw[key i (by simpa using hi)];exact hb⟩
  simp only[hb]
theorem Q1x{α:Type}(f:α->Int):∀l:List α,Q1g f l=0↔∀x∈l,f x=0
 |[]=>by simp[Q1g]
 |a::l=>by
  simp only[Q1g,List.mem_cons,forall_eq_or_imp]
  by_cases h:f a=0
  ·simp[h,Q1x f l]
  ·simp[h]
theorem Q1t:∀l:List Int,Q4k l=false↔l.Nodup
 |[]=>by simp[Q4k]
 |n::l=>by simp[Q4k,List.nodup_cons,Q1t l]
theorem Q87{e:List Ex}(h:Q0v e){x:Ex}(hx:x∈e):∀k∈x.kids,0<=k/\k < (e.length:Int):=by
 intro k hk
 obtain⟨j,hj⟩:=List.mem_iff_getElem?.1 hx
 have:=h j x hj k hk
 have hl:=(List.getElem?_eq_some_iff.1 hj).1
 omega
theorem Q2o(e:List Ex):Q06 e=(labs e).flatMap fun l=>Q08 l.op l.binds l.alts:=by
 unfold Q06 labs
 rw[List.flatMap_map];rfl
theorem Qjo{e f:List Ex}{params:List Int}{flat:Bool}(hf:IsTree f)(h:grow e=grow f)(hb:body e params flat=0):body f params flat=0:=by
 unfold body at hb ⊢
 by_cases h1:Q1n e=0
 ·rw[if_neg (by simpa using h1)]at hb
  obtain⟨t1,t2,t3⟩:=(Q1d e).1 h1
  have hp:=Q86 t2 hf h
  have hl:e.length=f.length:=by rw[←Q4x e,←Q4x f];exact hp.length_eq
  rw[if_neg (by rw[Classical.not_not];exact (Q1d f).2 ⟨by omega,hf,by rw[←h];exact t3⟩)]
  by_cases h2:Q1g (Q0d flat e) e=0
  ·rw[if_neg (by simpa using h2)]at hb
   have h2f:Q1g (Q0d flat f) f=0:=by
    rw[Q1x]at h2 ⊢
    intro y hy
    have hm:labE f y∈labs e:=hp.mem_iff.2 (List.mem_map_of_mem hy)
    obtain⟨x,hx,hxy⟩:=List.mem_map.1 hm
    rw[←Q71 (Q87 t2.k hx) (Q87 hf.k hy) hxy]
    exact h2 x hx
   rw[if_neg (by simpa using h2f)]
   by_cases h3:Q4k (params++Q06 e)=true
   ·rw[if_pos h3]at hb;exact absurd hb (by decide)
   ·rw[if_neg h3]at hb
    have hd:(params++Q06 e).Perm (params++Q06 f):=by
     rw[Q2o,Q2o]
     exact List.Perm.append_left _ (List.Perm.flatMap_right _ hp)
    have h3f:¬Q4k (params++Q06 f)=true:=by
     intro h4
     have h5:=(Q1t _).1 (by simpa using h3)
     have h6:=(Q1t _).2 (hd.nodup_iff.1 h5)
     rw[h6]at h4;cases h4
    rw[if_neg h3f,←h]
    exact hb
  ·rw[if_pos h2]at hb;exact absurd hb h2
 ·rw[if_pos h1]at hb;exact absurd hb h1
theorem Q15{e:List Ex}{params:List Int}{flat:Bool}(hb:body e params flat=0):IsTree e:=by
 unfold body at hb
 by_cases h1:Q1n e=0
 ·exact ((Q1d e).1 h1).2.1
 ·rw[if_pos h1]at hb;exact absurd hb h1
theorem Q6u{e:List Ex}(h:check e=0):check (listT [] (grow e))=0:=Qjo (Q1f _) (Q2n _).symm h
theorem Q5r{e:List Ex}(h:check e=0):(listT [] (grow e)).length=e.length:=by
 have hp:=Q86 (Q15 h) (Q1f (grow e)) (Q2n _).symm
 rw[←Q4x e,←Q4x];exact hp.length_eq.symm
end Go.CoreX
namespace Go.CoreX
abbrev Nm:=Int->Option Int
def setN (m:Nm)(k v:Int):Nm:=fun j=>if k=j then some v else m j
def putsN (m:Nm):List Int->List Int->Nm
 |x::xs,y::ys=>putsN (setN m x y) xs ys
 |_,_=>m
def Q7i:List Alt->List Alt->Bool
 |a::l,b::r=>(a.tag==b.tag&&a.binds.length==b.binds.length)&&Q7i l r
 |_,_=>true
def unlike (o:Int)(nk nb na:Nat)(t:Tr):Bool:=!(o==t.op&&nk==t.kids.length&&nb==t.binds.length&&na==t.alts.length)
def sameVar (m:Nm)(n n':Int):Bool:=match m n with|some v=>v==n'|none=>n==n'
mutual
def sameT:Tr->Tr->Nm->Bool×Nm
 |.mk o n b k a,t,m=>
  if unlike o k.length b.length a.length t=true then (false,m) else
  if o=0 then (sameVar m n t.n,m) else
  if (!(n==t.n))||(o==9&&!(b==t.binds))then (false,m) else
  if Q7i a t.alts=false then (false,m) else
  sameTs k t.kids (putsN m (Q08 o b a) (Q08 t.op t.binds t.alts))
def sameTs:List Tr->List Tr->Nm->Bool×Nm
 |[],_,m=>(true,m)
 |a::l,r,m=>match r with
  |[]=>(true,m)
  |b::r=>if (sameT a b m).1=true then sameTs l r (sameT a b m).2 else (false,(sameT a b m).2)
end
def Qki (a b:Tr):Bool:=(sameT a b fun _=>none).1
def same (a b:List Ex):Bool:=(check a==0&&check b==0)&&Qki (grow a) (grow b)
def order (e:List Ex):List Ex×Int:=if check e≠0 then ([],check e)else (listT [] (grow e),0)
end Go.CoreX
namespace Go.Abs
theorem AOps.atDst{E:Env}{ops:Array Oper}{l:List Oper}{o:Oper}{K:Cont}{fr:Fr}{σ:St}(d:Nat)(h:o.dst=some d)(k:AOps E ops (o::l) K fr σ):AOps E ops (o::l) K fr σ:=k
class StpC (g:Prop) (h:outParam Prop):Prop where
 go:h->g
theorem zst{g h:Prop} [i:StpC g h] (x:h):g:=i.go x
section
variable {E:Env}{Fin:Fr->St->Prop}{k:List AItem}{fr:Fr}{σ:St}{c x y:Code}{id:Nat}{J:Fr->St->Prop}{ops:Array Oper}{K:Cont}{l:List Oper}
instance:StpC (AOps E ops [] K fr σ) (K .normal fr σ):=⟨o1⟩
instance:StpC (ACode E (.seq x y) (Q03 E Fin k) fr σ) (ACode E x (Q03 E Fin (.code y::k)) fr σ):=⟨o2⟩
instance:StpC (ACode E (.region id l.toArray false) K fr σ) (AOps E l.toArray l K fr σ):=⟨o3⟩
instance:StpC (Q03 E Fin (.code c::k) .normal fr σ) (ACode E c (Q03 E Fin k) fr σ):=⟨o4⟩
instance:StpC (ACode E .ret (Q03 E Fin k) fr σ) (Q03 E Fin k .ret fr σ):=⟨o5⟩
instance:StpC (Q03 E Fin [] .ret fr σ) (Fin fr σ):=⟨o6⟩
instance:StpC (Q03 E Fin [] .normal fr σ) (Fin fr σ):=⟨o7⟩
instance:StpC (ACode E .skip (Q03 E Fin k) fr σ) (Q03 E Fin k .normal fr σ):=⟨o8⟩
instance:StpC (ACode E (.block id c) (Q03 E Fin k) fr σ) (ACode E c (Q03 E Fin (.blk id::k)) fr σ):=⟨o9⟩
instance:StpC (Q03 E Fin (.blk id::k) .normal fr σ) (Q03 E Fin k .normal fr σ):=⟨oa⟩
instance:StpC (Q03 E Fin (.code c::k) .ret fr σ) (Q03 E Fin k .ret fr σ):=⟨ob⟩
instance:StpC (Q03 E Fin (.blk id::k) .ret fr σ) (Q03 E Fin k .ret fr σ):=⟨oc⟩
instance:StpC (Q03 E Fin (.inv J::k) .ret fr σ) (Q03 E Fin k .ret fr σ):=⟨od⟩
instance {J:List PanicEntry->St->Prop}:StpC (Q03 E Fin (.pan J::k) .normal fr σ) (Q03 E Fin k .normal fr σ):=⟨fun h=>h⟩
instance {J:List PanicEntry->St->Prop}:StpC (Q03 E Fin (.pan J::k) .ret fr σ) (Q03 E Fin k .ret fr σ):=⟨fun h=>h⟩
instance {J:List PanicEntry->St->Prop}:StpC (Q03 E Fin (.pan J::k) (.exit id) fr σ) (Q03 E Fin k (.exit id) fr σ):=⟨fun h=>h⟩
instance:StpC (ACode E (.exit id) (Q03 E Fin k) fr σ) (Q03 E Fin k (.exit id) fr σ):=⟨oe⟩
instance:StpC (Q03 E Fin (.code c::k) (.exit id) fr σ) (Q03 E Fin k (.exit id) fr σ):=⟨og⟩
instance:StpC (Q03 E Fin (.blk id::k) (.exit id) fr σ) (Q03 E Fin k .normal fr σ):=⟨oh⟩
instance:StpC (Q03 E Fin (.inv J::k) (.exit id) fr σ) (Q03 E Fin k (.exit id) fr σ):=⟨oi⟩
end
end Go.Abs
namespace Go.Proofs.YthboaankaaeemaaDoor
open Go Go.Abs
section
variable {E:Env}{ops:Array Oper}{rest:List Oper}{o:Oper}{K:Cont}{fr fr':Fr}{σ σ':St}{d:Nat}{t yt:TypeId}{x y:Operand}{a b:Int}{p q:Bool}{tys:Array TypeId}
theorem zau(h:AOps E ops rest K fr' σ')(hT:TabOk E.P E.T:=by exact tabOk)(h1:aAuto E ops o fr σ=some (fr',σ'):=by exact rfl):AOps E ops (o::rest) K fr σ:=AOps.auto hT h1 h
theorem zad(h:AOps E ops rest K ((d,.one (.lit (.int .i64 (a+b))))::fr) σ)(hgd:o.guard=none:=by exact rfl)(hdst:o.dst=some d:=by exact rfl)(hd:Nat.ble (d+1) E.N=true:=by exact rfl)(ho:o.op=.binOp .add t x y yt:=by exact rfl)
  (hx:aEval E.Γ fr x=some (.one (.lit (.int .i64 a))):=by exact rfl) (hy:aEval E.Γ fr y=some (.one (.lit (.int .i64 b))):=by exact rfl) (h0:-9223372036854775808<=a+b:=by first|omega|(simp;omega)) (h1:a+b<=9223372036854775807:=by first|omega|(simp;omega)):AOps E ops (o::rest) K fr σ:=
 AOps.step1 hgd hdst hd (AStep.arith ho hx hy (.inl ⟨rfl,rfl⟩) (Q2r h0 h1)) h
theorem zsu(h:AOps E ops rest K ((d,.one (.lit (.int .i64 (a - b))))::fr) σ)(hgd:o.guard=none:=by exact rfl)(hdst:o.dst=some d:=by exact rfl)(hd:Nat.ble (d+1) E.N=true:=by exact rfl)(ho:o.op=.binOp .sub t x y yt:=by exact rfl)
  (hx:aEval E.Γ fr x=some (.one (.lit (.int .i64 a))):=by exact rfl) (hy:aEval E.Γ fr y=some (.one (.lit (.int .i64 b))):=by exact rfl) (h0:-9223372036854775808<=a - b:=by first|omega|(simp;omega)) (h1:a - b<=9223372036854775807:=by first|omega|(simp;omega)):AOps E ops (o::rest) K fr σ:=
 AOps.step1 hgd hdst hd (AStep.arith ho hx hy (.inr (.inl ⟨rfl,rfl⟩)) (Q2r h0 h1)) h
theorem zne(h:AOps E ops rest K ((d,.one (.lit (.bool (!(p==q)))))::fr) σ)(hgd:o.guard=none:=by exact rfl)(hdst:o.dst=some d:=by exact rfl)(hd:Nat.ble (d+1) E.N=true:=by exact rfl)(ho:o.op=.binOp .neq t x y yt:=by exact rfl)(ht:E.P.underlying t=some .bool:=by exact Tryd.underlying4)
  (hx:aEval E.Γ fr x=some (.one (.lit (.bool p))):=by exact rfl) (hy:aEval E.Γ fr y=some (.one (.lit (.bool q))):=by exact rfl):AOps E ops (o::rest) K fr σ:=AOps.step1 hgd hdst hd (AStep.neBool ht ho hx hy) h
theorem zeq(h:AOps E ops rest K ((d,.one (.lit (.bool (p==q))))::fr) σ)(hgd:o.guard=none:=by exact rfl)(hdst:o.dst=some d:=by exact rfl)(hd:Nat.ble (d+1) E.N=true:=by exact rfl)(ho:o.op=.binOp .eql t x y yt:=by exact rfl)(ht:E.P.underlying t=some .bool:=by exact Tryd.underlying4)
  (hx:aEval E.Γ fr x=some (.one (.lit (.bool p))):=by exact rfl) (hy:aEval E.Γ fr y=some (.one (.lit (.bool q))):=by exact rfl):AOps E ops (o::rest) K fr σ:=AOps.step1 hgd hdst hd (AStep.eqBool ht ho hx hy) h
theorem zmx(h:AOps E ops rest K ((d,.one (.lit (.int .i64 (if b > a then b else a))))::fr) σ)(hgd:o.guard=none:=by exact rfl)(hdst:o.dst=some d:=by exact rfl)(hd:Nat.ble (d+1) E.N=true:=by exact rfl)(ho:o.op=.call { callee:=.builtin .max,args:=#[x,y],argTypes:=tys }:=by exact rfl)
  (hx:aEval E.Γ fr x=some (.one (.lit (.int .i64 a))):=by exact rfl) (hy:aEval E.Γ fr y=some (.one (.lit (.int .i64 b))):=by exact rfl):AOps E ops (o::rest) K fr σ:=AOps.step1 hgd hdst hd (AStep.max2 (t:=3) (ty:=3) ho hx hy) h
theorem zmn(h:AOps E ops rest K ((d,.one (.lit (.int .i64 (if b < a then b else a))))::fr) σ)(hgd:o.guard=none:=by exact rfl)(hdst:o.dst=some d:=by exact rfl)(hd:Nat.ble (d+1) E.N=true:=by exact rfl)(ho:o.op=.call { callee:=.builtin .min,args:=#[x,y],argTypes:=tys }:=by exact rfl)
  (hx:aEval E.Γ fr x=some (.one (.lit (.int .i64 a))):=by exact rfl) (hy:aEval E.Γ fr y=some (.one (.lit (.int .i64 b))):=by exact rfl):AOps E ops (o::rest) K fr σ:=AOps.step1 hgd hdst hd (AStep.min2 (t:=3) (ty:=3) ho hx hy) h
theorem zow{ti:TI}{j:Abs.Id}{off:Nat}{cs:List AC}{c:AC}(ho:o.op=.load t x)(hx:aEval E.Γ fr x=some (.one (.ptr j off)))(hg:σ.get j=some (.cells cs))(h:AOps E ops rest K ((d,.one c)::fr) σ)(hgd:o.guard=none:=by exact rfl)(hdst:o.dst=some d:=by exact rfl)(hd:Nat.ble (d+1) E.N=true:=by exact rfl)(hT:TabOk E.P E.T:=by exact tabOk)
  (ht:Tab.get t E.T=some ti:=by exact rfl) (ha:ti.agg=false:=by exact rfl) (hs:Nat.beq ti.size 1=true:=by exact rfl) (hc:cs[off]?=some c:=by exact rfl):AOps E ops (o::rest) K fr σ:=AOps.step1 hgd hdst hd (AStep.loadOwn hT ho ht ha hs hx hg hc) h
theorem zix{ti tj:TI}{k:IntKind}{n:Int}{s:Nat}{es:List (List AC)}{e:List AC}(h:AOps E ops rest K ((d,.one (.box e))::fr) σ)(hgd:o.guard=none:=by exact rfl)(hdst:o.dst=some d:=by exact rfl)(hd:Nat.ble (d+1) E.N=true:=by exact rfl)(ho:o.op=.indexAddr t x y:=by exact rfl)(hT:TabOk E.P E.T:=by exact tabOk)
  (ht:Tab.get t E.T=some ti:=by exact rfl) (hk:Nat.beq ti.kind 2=true:=by exact rfl) (hj:Tab.get ti.elem E.T=some tj:=by exact rfl) (hx:aEval E.Γ fr x=some (.one (.sl s es)):=by exact rfl) (hs:Nat.beq tj.size s=true:=by exact rfl) (hy:aEval E.Γ fr y=some (.one (.lit (.int k n))):=by exact rfl) (h0:0<=n:=by decide) (he:es[n.toNat]?=some e:=by exact rfl):AOps E ops (o::rest) K fr σ:=
 AOps.step1 hgd hdst hd (AStep.indexAddr hT ho ht hk hj hs hx (.inl rfl) hy h0 he) h
theorem zca{f:Operand}{args:Array Operand}{g:Nat}{first caps:List AC}{vs ws:List FV}{r:FV}(hΓ:∀g cs,(g,cs)∈E.Γ->idsL isO cs)(hc:APure E.P E.Γ g ws r)(hou:OuOk σ.ou)(h:AOps E ops rest K ((d,r)::fr) σ)(hgd:o.guard=none:=by exact rfl)(hdst:o.dst=some d:=by exact rfl)(hd:Nat.ble (d+1) E.N=true:=by exact rfl)
  (ho:o.op=.call { callee:=.value f,args:=args,argTypes:=tys }:=by exact rfl) (hf:aEval E.Γ fr f=some (.one (.fn (.func g) first caps)):=by exact rfl) (hargs:Q2p E.Γ fr args.toList=some vs:=by exact rfl) (has:first.map .one++vs++caps.map .one=ws:=by exact rfl) (hids:idsF isO ws:=by simp):AOps E ops (o::rest) K fr σ:=
 AOps.callC hΓ hc hgd hdst hd ho hf hargs has hou hids h
end
section
variable {ρ:Nat->Nat}{fr r:Fr}{k n s:Nat}{x v:FV}{es:List (List AC)}{oc:Option Nat}{lo lr:List (Nat×AObj)}{o p:AObj}{k':Nat}
theorem zfc(hr:FrSub ρ fr r)(h:Fr.get k fr=some v:=by exact rfl)(he:v=x.ren ρ:=by exact rfl):FrSub ρ fr ((k,x)::r):=FrSub.cons h (.ofEq he) hr
theorem zfo(hr:FrSub ρ fr r)(h:Fr.get n fr=some (.one (oaC k' s es oc)):=by exact rfl)(hk:k'=ρ k:=by exact rfl):FrSub ρ fr ((n,.one (oaC k s es oc))::r):=FrSub.oa h hk hr
theorem zfp(hr:FrSub ρ fr r)(h:Fr.get k fr=some v:=by exact rfl)(he:v=x:=by exact rfl)(hp:x.ids isO:=by simp):FrSub ρ fr ((k,x)::r):=FrSub.consP h (.ofEq he) hp hr
theorem zlc(hr:LoSub ρ n lo lr)(h:lookL (ρ k) lo=some p:=by exact rfl)(hk:Nat.blt k n=true:=by exact rfl)(he:p=o.ren ρ:=by first|rfl|(refine (AObj.ren_pure _ _ ?_).symm;simp;done)|exact (ren_oaO _ _ _ _ fun _=>Qj5 (by simp;done)).symm|(simp[AObj.ren,renL,AC.ren];done)|(simp[AObj.ren,renL,AC.ren];rfl))(hi:o.ids (inL n):=by first|(simp;done)|exact Qj6 (by simp)):LoSub ρ n lo ((k,o)::lr):=LoSub.cons h he hk hi hr
theorem zld(he:p=o.ren ρ)(hr:LoSub ρ n lo lr)(h:lookL (ρ k) lo=some p:=by exact rfl)(hk:Nat.blt k n=true:=by exact rfl)(hi:o.ids (inL n):=by first|(simp;done)|exact Qj6 (by simp)):LoSub ρ n lo ((k,o)::lr):=LoSub.cons h he hk hi hr
end
section
variable {E:Env}{o:Oper}{fr:Fr}{σ σ':St}{ρ:Nat->Nat}{r:Fr}{n:Nat}{lo lr:List (Nat×AObj)}{ops:Array Oper}{v:FV}
theorem zFW(h:FrSub ρ fr r:=by (repeat' first|exact FrSub.nil|refine zfc ?_|refine zfo ?_|refine zfp ?_ (hp:=by first|assumption|(simp;done)))):FrSub ρ fr r:=h
theorem zFS(h:FrSub ρ fr r:=by (repeat' first|exact FrSub.nil|refine zfc ?_|refine zfo ?_|refine zfp ?_)):FrSub ρ fr r:=h
theorem zLO(h:LoSub ρ n lo lr:=by (repeat' first|exact LoSub.nil|refine zlc ?_|refine zld ?_ ?_|rfl)):LoSub ρ n lo lr:=h
theorem zI{k:Int}(h1:-9223372036854775808<=k:=by omega)(h2:k<=9223372036854775807:=by omega):Q4j .i64 k:=Q2r h1 h2
theorem zHP(h:AStep E o fr σ v σ')(hg:o.guard=none:=by exact rfl):HStep E ops o fr σ σ' v:=HStep.plain hg h
theorem zS{rest:List Oper}{K:Cont}{x:FV}{d:Nat}(hs:AStep E o fr σ x σ')(h:AOps E ops rest K ((d,x)::fr) σ')(hgd:o.guard=none:=by exact rfl)(hdst:o.dst=some d:=by exact rfl)(hd:Nat.ble (d+1) E.N=true:=by exact rfl):AOps E ops (o::rest) K fr σ:=AOps.step1 hgd hdst hd hs h
theorem zLD{t:TypeId}{ti:TI}{x:Operand}{j:Abs.Id}{off:Nat}{cs:List AC}{c:AC}(ho:o.op=.load t x)(hx:aEval E.Γ fr x=some (.one (.ptr j off)))(hg:σ.get j=some (.cells cs))(hc:cs[off]?=some c)(hT:TabOk E.P E.T:=by exact tabOk)(ht:Tab.get t E.T=some ti:=by exact rfl)(ha:ti.agg=false:=by exact rfl)(hs:Nat.beq ti.size 1=true:=by exact rfl):AStep E o fr σ (.one c) σ:=AStep.loadOwn hT ho ht ha hs hx hg hc
theorem zIA{t:TypeId}{ti tj:TI}{x i:Operand}{k:IntKind}{m:Int}{s:Nat}{es:List (List AC)}{e:List AC}(ho:o.op=.indexAddr t x i)(hx:aEval E.Γ fr x=some (.one (.sl s es)))(hi':aEval E.Γ fr i=some (.one (.lit (.int k m))))(h0:0<=m)(he:es[m.toNat]?=some e)(hT:TabOk E.P E.T:=by exact tabOk)(ht:Tab.get t E.T=some ti:=by exact rfl)(hk:Nat.beq ti.kind 2=true:=by exact rfl)(hj:Tab.get ti.elem E.T=some tj:=by exact rfl)(hs:Nat.beq tj.size s=true:=by exact rfl):AStep E o fr σ (.one (.box e)) σ:=AStep.indexAddr hT ho ht hk hj hs hx (.inl rfl) hi' h0 he
end
structure ZW (q:Prop):Prop where
 out:q
theorem zA{p q:Prop}(h:q)(f:ZW q->p:=by
  intro h
  repeat first|((with_reducible refine oj ?_);refine zau ?_)|(with_reducible refine zst ?_)|((with_reducible refine Q0s ?_ ?_);rfl)|(with_reducible refine ok ?_;first|refine ACode.condT rfl ?_|refine ACode.condF rfl ?_)
  exact h.out):p:=f ⟨h⟩
theorem zM{p q:Prop}(h:q)(f:ZW q->p:=by
  intro h
  repeat first|((with_reducible refine oj ?_);refine zau ?_)|(with_reducible refine zst ?_)|((with_reducible refine Q0s ?_ ?_);rfl)|(with_reducible refine ok ?_;first|refine ACode.condT rfl ?_|refine ACode.condF rfl ?_)|((with_reducible refine oj ?_);first|refine zad ?_|refine zsu ?_|refine zne ?_|refine zeq ?_|refine zmx ?_|refine zmn ?_|refine AOps.unG rfl rfl rfl ?_)
  exact h.out):p:=f ⟨h⟩
theorem zN{p q:Prop}(h:q)(f:ZW q->p:=by
  intro h
  first|((with_reducible refine oj ?_);refine zau ?_)|(with_reducible refine zst ?_)|((with_reducible refine Q0s ?_ ?_);rfl)|(with_reducible refine ok ?_;first|refine ACode.condT rfl ?_|refine ACode.condF rfl ?_)|((with_reducible refine oj ?_);first|refine zad ?_|refine zsu ?_|refine zne ?_|refine zeq ?_|refine zmx ?_|refine zmn ?_|refine AOps.unG rfl rfl rfl ?_)
  repeat first|((with_reducible refine oj ?_);refine zau ?_)|(with_reducible refine zst ?_)|((with_reducible refine Q0s ?_ ?_);rfl)|(with_reducible refine ok ?_;first|refine ACode.condT rfl ?_|refine ACode.condF rfl ?_)|((with_reducible refine oj ?_);first|refine zad ?_|refine zsu ?_|refine zne ?_|refine zeq ?_|refine zmx ?_|refine zmn ?_|refine AOps.unG rfl rfl rfl ?_)
  exact h.out):p:=f ⟨h⟩
theorem zO{p q:Prop}(h:q)(f:ZW q->p:=by
  intro h
  first|((with_reducible refine oj ?_);refine zau ?_)|(with_reducible refine zst ?_)|((with_reducible refine Q0s ?_ ?_);rfl)|(with_reducible refine ok ?_;first|refine ACode.condT rfl ?_|refine ACode.condF rfl ?_)|((with_reducible refine oj ?_);first|refine zad ?_|refine zsu ?_|refine zne ?_|refine zeq ?_|refine zmx ?_|refine zmn ?_|refine AOps.unG rfl rfl rfl ?_)
  exact h.out):p:=f ⟨h⟩
end Go.Proofs.YthboaankaaeemaaDoor
namespace Go.Proofs.YthboaankaaeemaaDoor
open Go Go.Abs Go.CoreX
abbrev int (n:Int):AC:=.lit (.int .i64 n)
def cI (n:Int):List AC:=[int n]
def cAlt (a:Alt):List AC:=[int a.tag,.sl 1 (a.binds.map cI)]
def cEx (x:Ex):List AC:=[int x.op,int x.n,.sl 1 (x.binds.map cI),.sl 1 (x.kids.map cI),.sl 2 (x.alts.map cAlt)]
mutual
def encTr:Tr->List AC
 |.mk o n b k a=>[int o,int n,.sl 1 (b.map cI),.sl 1 (Q24 k),.sl 2 (a.map cAlt)]
def Q24:List Tr->List (List AC)
 |[]=>[]
 |t::ts=>[.box (encTr t)]::Q24 ts
end
def cTr (t:Tr):List AC:=[int t.op,int t.n,.sl 1 (t.binds.map cI),.sl 1 (Q24 t.kids),.sl 2 (t.alts.map cAlt)]
def cB (t:Tr):List AC:=[.box (cTr t)]
theorem Qfw(t:Tr):encTr t=cTr t:=by cases t;simp[encTr,cTr]
theorem Q60:∀l:List Tr,Q24 l=l.map cB
 |[]=>rfl
 |t::ts=>by simp[Q24,Q60 ts,Qfw,cB]
theorem Qaa{l:List Tr}{i:Nat}{t:Tr}(h:l[i]?=some t):(Q24 l)[i]?=some (cB t):=by rw[Q60];simp[h]
attribute [simp] idsL idsS AC.ids FV.ids idsF Fr.ids inL isO AObj.ids
theorem Q1w{α:Type}{p:Abs.Id->Prop}{f:α->List AC}(h:∀x,idsL p (f x)):∀l:List α,idsS p (l.map f)
 |[]=>by simp
 |x::l=>by simp[h x,Q1w h l]
@[simp] theorem Qja (p:Abs.Id->Prop) (n:Int):idsL p (cI n):=by simp[cI]
@[simp] theorem Qdm (p:Abs.Id->Prop) (l:List Int):idsS p (l.map cI):=Q1w (Qja p) l
@[simp] theorem Qlm (p:Abs.Id->Prop) (a:Alt):idsL p (cAlt a):=by simp[cAlt]
@[simp] theorem Qcj (p:Abs.Id->Prop) (l:List Alt):idsS p (l.map cAlt):=Q1w (Qlm p) l
@[simp] theorem Qjb (p:Abs.Id->Prop) (x:Ex):idsL p (cEx x):=by simp[cEx]
@[simp] theorem ids_cExs (p:Abs.Id->Prop) (l:List Ex):idsS p (l.map cEx):=Q1w (Qjb p) l
mutual
theorem Qj8(p:Abs.Id->Prop):∀t:Tr,idsL p (encTr t)
 |.mk o n b k a=>by simp[encTr,Q6k p k]
theorem Q6k(p:Abs.Id->Prop):∀l:List Tr,idsS p (Q24 l)
 |[]=>by simp[Q24]
 |t::ts=>by simp[Q24,Qj8 p t,Q6k p ts]
end
attribute [simp] Q6k
@[simp] theorem ids_cTr (p:Abs.Id->Prop) (t:Tr):idsL p (cTr t):=by simp[cTr]
@[simp] theorem ids_cB (p:Abs.Id->Prop) (t:Tr):idsL p (cB t):=by simp[cB]
@[simp] theorem ids_cBs (p:Abs.Id->Prop) (l:List Tr):idsS p (l.map cB):=Q1w (ids_cB p) l
@[simp] theorem len_encTrs (l:List Tr):(Q24 l).length=l.length:=by rw[Q60];simp
@[simp] theorem Q7u (ρ:Nat->Nat) (l:List Int):renS ρ (l.map cI)=l.map cI:=Q1s ρ _ (Qdm _ l)
@[simp] theorem Q7v (ρ:Nat->Nat) (l:List Alt):renS ρ (l.map cAlt)=l.map cAlt:=Q1s ρ _ (Qcj _ l)
@[simp] theorem Qi8 (ρ:Nat->Nat) (l:List Tr):renS ρ (l.map cB)=l.map cB:=Q1s ρ _ (ids_cBs _ l)
@[simp] theorem ren_cEx (ρ:Nat->Nat) (x:Ex):renL ρ (cEx x)=cEx x:=Q2i ρ _ (Qjb _ x)
theorem Q0c{α:Type}{f:α->List AC}{l:List α}{i:Nat}{a:α}(h:l[i]?=some a):(l.map f)[i]?=some (f a):=by simp[h]
theorem Q00{α:Type}{l:List α}{i:Nat}(h:i < l.length):∃a,l[i]?=some a:=⟨l[i],List.getElem?_eq_getElem h⟩
def arC:List AC:=(Q61.map fun n=>Value.int .i64 n).map .lit
def orC:List AC:=[3,4,6,7,5,1,2,11,8,9].map fun n=>.lit (.int .i64 n)
def Γc:List (Nat×List AC):=[(1,arC)]
theorem hΓc:∀g cs,(g,cs)∈Γc->idsL isO cs:=fun g cs h=>by
 simp[Γc]at h
 first
  |(obtain⟨rfl,rfl⟩:=h;simp[arC,Q61];done)
  |(rcases h with ⟨rfl,rfl⟩|⟨rfl,rfl⟩ <;> simp[arC,orC,Q61])
theorem follows:Tryd.prog.follows .mixedOrders=true:=by kernel_rfl
structure okX (x:Ex):Prop where
 b:x.binds.length<=1048576
 k:x.kids.length<=1048576
 a:x.alts.length<=1048576
 ab:∀a∈x.alts,a.binds.length<=1048576
structure okE (e:List Ex):Prop where
 l:e.length<=1048576
 x:∀x∈e,okX x
variable {Γ:List (Nat×List AC)}
def idxOf {α:Type}(p:α->Bool):List α->Int
 |[]=>-1
 |a::l=>if p a=true then 0 else if idxOf p l < 0 then -1 else idxOf p l+1
theorem Qfj{α:Type}{p:α->Bool}:∀l:List α,-1<=idxOf p l
 |[]=>by simp[idxOf]
 |a::l=>by
  have:=Qfj (p:=p) l
  simp only[idxOf];split
  ·omega
  ·split <;> omega
theorem Q6j{α:Type}{p:α->Bool}:∀{l:List α},(∀x∈l,p x=false)->idxOf p l=-1
 |[],_=>rfl
 |a::l,h=>by simp only[idxOf,h a (by simp),Q6j (l:=l) (fun x hx=>h x (by simp[hx]))];simp
theorem Qbb{α:Type}{p:α->Bool}:∀{l:List α}{j:Nat}{a:α},(∀x∈l.take j,p x=false)->l[j]?=some a->p a=true->idxOf p l=j
 |[],j,a,_,h,_=>by simp at h
 |x::l,0,a,_,h,hp=>by simp at h;subst h;simp[idxOf,hp]
 |x::l,j+1,a,h0,h,hp=>by
  have:=Qbb (l:=l) (j:=j) (fun y hy=>h0 y (by simp[hy])) (by simpa using h) hp
  simp only[idxOf,h0 x (by simp),this]
  rw[if_neg (by simp),if_neg (by omega)];simp
theorem Qcg{α:Type}{p:α->Bool}:∀l:List α,0<=idxOf p l↔l.any p=true
 | [] => by simp [idxOf]
 |a::l=>by
  have ih:=Qcg (p:=p) l
  have hge:=Qfj (p:=p) l
  simp only[idxOf,List.any_cons,Bool.or_eq_true,←ih]
  by_cases hp:p a=true
  ·simp[hp]
  ·rw[if_neg hp]
   by_cases h:idxOf p l < 0
   ·rw[if_pos h]
    exact⟨fun h2=>by omega,fun h2=>h2.elim (fun h3=>absurd h3 hp) (fun h3=>by omega)⟩
   ·rw[if_neg h]
    exact⟨fun h2=>.inr (by omega),fun h2=>by omega⟩
theorem Qch{α:Type}{p:α->Bool}(l:List α):decide (idxOf p l ≥ 0)=l.any p:=by
 rw[Bool.eq_iff_iff,decide_eq_true_iff]
 exact Qcg l

theorem Q1p{α:Type}{p:α->Prop}{l:List α}{j:Nat}{a:α}(h:∀x∈l.take j,p x)(ha:l[j]?=some a)(hp:p a):∀x∈l.take (j+1),p x:=by
 intro x hx
 rw[List.take_add_one,ha]at hx
 rcases List.mem_append.1 hx with hx|hx
 ·exact h x hx
 ·simp at hx;subst hx;exact hp
theorem Qjc{caps:List AC}(h:idsL isO caps):idsF isO (caps.map .one):=by
 induction caps with
 |nil=>trivial
 |cons c l ih=>exact⟨h.1,ih h.2⟩
theorem Q4z(n low high:Int):APure Tryd.prog Γ 106 [.one (int n),.one (int low),.one (int high)] (.one (.lit (.bool (between n low high)))):=by
 intro ou
 refine AFn.walk 15 tabOk Tryd.func106 rfl (by kernel_rfl) rfl rfl fun hou=>?_
 repeat' first|((with_reducible refine oj ?_);refine zau ?_)|(with_reducible refine zst ?_)|((with_reducible refine Q0s ?_ ?_);rfl)|(with_reducible refine ok ?_;first|refine ACode.condT rfl ?_|refine ACode.condF rfl ?_)|(with_reducible refine oj ?_;refine AOps.splitS rfl rfl rfl rfl (fun hb=>?_) (fun hb=>?_))|(with_reducible refine ok ?_;refine ACode.cond rfl (fun hb=>?_) (fun hb=>?_))
 all_goals exact APure.fin rfl (WkF.ofEq (by simp[between];first|(simp_all;done)|(simp_all;omega))) (by simp) hou rfl
theorem Qdu(n:Int):APure Tryd.prog Γ 79 [.one (int n)] (.one (.lit (.bool (Q5x n)))):=by
 intro ou
 refine AFn.walk 13 tabOk Tryd.func79 rfl (by kernel_rfl) rfl rfl fun hou=>?_
 repeat' first|((with_reducible refine oj ?_);refine zau ?_)|(with_reducible refine zst ?_)|((with_reducible refine Q0s ?_ ?_);rfl)|(with_reducible refine ok ?_;first|refine ACode.condT rfl ?_|refine ACode.condF rfl ?_)|(with_reducible refine oj ?_;refine AOps.splitS rfl rfl rfl rfl (fun hb=>?_) (fun hb=>?_))|(with_reducible refine ok ?_;refine ACode.cond rfl (fun hb=>?_) (fun hb=>?_))
 all_goals exact APure.fin rfl (WkF.ofEq (by simp[Q5x];simp_all)) (by simp) hou rfl
theorem Qdv(n:Int):APure Tryd.prog Γ 78 [.one (int n)] (.one (.lit (.bool (Q7h n)))):=by
 intro ou
 refine AFn.walk 17 tabOk Tryd.func78 rfl (by kernel_rfl) rfl rfl fun hou=>?_
 repeat' first|((with_reducible refine oj ?_);refine zau ?_)|(with_reducible refine zst ?_)|((with_reducible refine Q0s ?_ ?_);rfl)|(with_reducible refine ok ?_;first|refine ACode.condT rfl ?_|refine ACode.condF rfl ?_)|(with_reducible refine oj ?_;refine AOps.splitS rfl rfl rfl rfl (fun hb=>?_) (fun hb=>?_))|(with_reducible refine ok ?_;refine ACode.cond rfl (fun hb=>?_) (fun hb=>?_))
 all_goals exact APure.fin rfl (WkF.ofEq (by simp[Q7h];simp_all)) (by simp) hou rfl
theorem Qmf(hΓ:∀g cs,(g,cs)∈Γ->idsL isO cs)(xs:List Int)(hx:xs.length<=1048576)(n:Int):
  APure Tryd.prog Γ 34 [.one (.sl 1 (xs.map cI)),.one (int n)] (.one (int (idxOf (n==·) xs))):=by
 intro ou
 refine AFn.walk 19 tabOk Tryd.func34 rfl (by kernel_rfl) rfl rfl fun hou=>?_
 refine zA ?_
 refine ACode.loopR hΓ (α:=Nat) (fun j=>[(8,.one (int j)),(7,.one (int (xs.map cI).length)),(1,.one (int n)),(0,.one (.sl 1 (xs.map cI)))])
  (fun j => ⟨0, [], ou⟩) (fun m j => j <= xs.length /\ (∀ x ∈ xs.take j, (n == x) = false) /\ m = xs.length - j) (a0 := 0) (ρ := id) ⟨by omega, by simp, rfl⟩ (LessR.of rfl zFS (by simp) zLO rfl rfl hou) fun m j hj => ?_
 obtain⟨hjl,hno,rfl⟩:=hj
 refine zA ?_
 refine ACode.cond rfl (fun hb2=>?_) (fun hb2=>?_)
 ·have hlt:j < xs.length:=by simpa using hb2
  obtain⟨a,ha⟩:=Q00 hlt
  refine zA ?_
  refine zS (zIA rfl rfl rfl (by omega) (by simpa using Q0c ha)) ?_
  refine zA ?_
  refine ACode.cond rfl (fun hb3=>?_) (fun hb3=>?_)
  ·refine zA ?_
   refine APure.fin rfl (WkF.ofEq ?_) (by simp) hou rfl
   rw[Qbb hno ha hb3]
  ·refine zA ?_
   refine zS (AStep.arith rfl rfl rfl (.inl ⟨rfl,rfl⟩) zI) ?_
   refine zA ?_
   exact cInv ⟨xs.length - (j+1),j+1,id,by omega,⟨by omega,Q1p hno ha hb3,rfl⟩,LessR.of rfl zFS (by simp) zLO rfl rfl hou⟩
 ·have hlt:j=xs.length:=by simp at hb2;omega
  subst hlt
  rw[List.take_length]at hno
  refine zA ?_
  refine APure.fin rfl (WkF.ofEq ?_) (by simp) hou rfl
  rw[Q6j hno]
theorem Qe6(hΓ:∀g cs,(g,cs)∈Γ->idsL isO cs)(xs:List Int)(hx:xs.length<=1048576)(n:Int):
  APure Tryd.prog Γ 12 [.one (.sl 1 (xs.map cI)),.one (int n)] (.one (.lit (.bool (xs.contains n)))):=by
 intro ou
 refine AFn.walk 9 tabOk Tryd.func12 rfl (by kernel_rfl) rfl rfl fun hou=>?_
 refine zA ?_
 refine zca hΓ (Qmf hΓ xs hx n) hou ?_
 refine zA ?_
 refine APure.fin rfl (WkF.ofEq ?_) (by simp) hou rfl
 rw[Qch,List.any_beq]

theorem Qhb(hΓ:∀g cs,(g,cs)∈Γ->idsL isO cs)(gf:Nat)(caps:List AC)(hcap:idsL isO caps)(p:Alt->Bool)(xs:List Alt)(hx:xs.length<=1048576)(hf:∀a∈xs,APure Tryd.prog Γ gf (.agg (cAlt a)::caps.map .one) (.one (.lit (.bool (p a))))):
  APure Tryd.prog Γ 123 [.one (.sl 2 (xs.map cAlt)),.one (.fn (.func gf) [] caps)] (.one (int (idxOf p xs))):=by
 intro ou
 refine AFn.walk 19 tabOk Tryd.func123 rfl (by kernel_rfl) rfl rfl fun hou=>?_
 refine zA ?_
 refine ACode.loopR hΓ (α:=Nat) (fun j=>[(8,.one (int j)),(7,.one (int (xs.map cAlt).length)),(1,.one (.fn (.func gf) [] caps)),(0,.one (.sl 2 (xs.map cAlt)))])
  (fun j=>⟨0,[],ou⟩) (fun m j=>j<=xs.length/\(∀x∈xs.take j,p x=false)/\m=xs.length - j) (a0:=0) (ρ:=id) ⟨by omega,by simp,rfl⟩ (LessR.of rfl ?_ ?_ zLO rfl rfl hou) fun m j hj=>?_
 ·refine .cons rfl (.ofEq rfl) (.cons rfl (.ofEq rfl) (.consP rfl (.ofEq rfl) (by simp[hcap]) (.consP rfl (.ofEq rfl) (by simp) .nil)))
 ·simp[Q12 Q8a caps hcap]
 obtain⟨hjl,hno,rfl⟩:=hj
 refine zA ?_
 refine ACode.cond rfl (fun hb2=>?_) (fun hb2=>?_)
 ·have hlt:j < xs.length:=by simpa using hb2
  obtain⟨a,ha⟩:=Q00 hlt
  have hca:=hf a (List.mem_of_getElem? ha)
  refine zA ?_
  refine zS (zIA rfl rfl rfl (by omega) (by simpa using Q0c ha)) ?_
  refine zA ?_
  refine AOps.callC hΓ hca rfl rfl rfl rfl rfl rfl rfl hou (by simp[Qjc hcap]) ?_
  refine zA ?_
  refine ACode.cond rfl (fun hb3=>?_) (fun hb3=>?_)
  ·refine zA ?_
   refine APure.fin rfl (WkF.ofEq ?_) (by simp) hou rfl
   rw[Qbb hno ha hb3]
  ·refine zA ?_
   refine zS (AStep.arith rfl rfl rfl (.inl ⟨rfl,rfl⟩) zI) ?_
   refine zA ?_
   refine cInv ⟨xs.length - (j+1),j+1,id,by omega,⟨by omega,Q1p hno ha hb3,rfl⟩,LessR.of rfl ?_ ?_ zLO rfl rfl hou⟩
   ·refine .cons rfl (.ofEq rfl) (.cons rfl (.ofEq rfl) (.consP rfl (.ofEq rfl) (by simp[hcap]) (.consP rfl (.ofEq rfl) (by simp) .nil)))
   ·simp[Q12 Q8a caps hcap]
 ·have hlt:j=xs.length:=by simp at hb2;omega
  subst hlt
  rw[List.take_length]at hno
  refine zA ?_
  refine APure.fin rfl (WkF.ofEq ?_) (by simp) hou rfl
  rw[Q6j hno]
theorem Qk6(hΓ:∀g cs,(g,cs)∈Γ->idsL isO cs)(gf:Nat)(caps:List AC)(hcap:idsL isO caps)(p:Alt->Bool)(xs:List Alt)(hx:xs.length<=1048576)(hf:∀a∈xs,APure Tryd.prog Γ gf (.agg (cAlt a)::caps.map .one) (.one (.lit (.bool (p a))))):
  APure Tryd.prog Γ 110 [.one (.sl 2 (xs.map cAlt)),.one (.fn (.func gf) [] caps)] (.one (.lit (.bool (xs.any p)))):=by
 intro ou
 refine AFn.walk 9 tabOk Tryd.func110 rfl (by kernel_rfl) rfl rfl fun hou=>?_
 refine zA ?_
 refine AOps.callC hΓ (Qhb hΓ gf caps hcap p xs hx hf) rfl rfl rfl rfl rfl rfl rfl hou (by simp[hcap]) ?_
 refine zA ?_
 refine APure.fin rfl (WkF.ofEq ?_) (by simp) hou rfl
 rw[←Qch]

theorem Qm8(b a:Alt):APure Tryd.prog Γ 111 [.agg (cAlt b),.one (.box (cAlt a))] (.one (.lit (.bool (b.tag==a.tag)))):=by
 intro ou
 refine AFn.walk 9 tabOk Tryd.func111 rfl (by kernel_rfl) rfl rfl fun hou=>?_
 refine zA ?_
 exact APure.fin rfl (WkF.ofEq rfl) (by simp) hou rfl
theorem Qm5(e:List Ex)(k:Int)(x:Ex)(h0:0<=k)(hx:e[k.toNat]?=some x):APure Tryd.prog Γ 81 [.one (int k),.one (.box [.sl 5 (e.map cEx)])] (.agg (cEx x)):=by
 intro ou
 refine AFn.walk 8 tabOk Tryd.func81 rfl (by kernel_rfl) rfl rfl fun hou=>?_
 refine zA ?_
 refine zS (zIA rfl rfl rfl h0 (Q0c hx)) ?_
 refine zA ?_
 exact APure.fin rfl (WkF.ofEq rfl) (by simp) hou rfl
set_option maxHeartbeats 400000 in
theorem alts_ok(hΓ:∀g cs,(g,cs)∈Γ->idsL isO cs)(x:Ex)(hx:okX x):APure Tryd.prog Γ 105 [.agg (cEx x)] (.one (.lit (.bool (Q3s x)))):=by
 have hxa:=hx.a
 have hxb:=hx.ab
 have hxk:=hx.k
 intro ou
 refine AFn.walk 94 tabOk Tryd.func105 rfl (by kernel_rfl) rfl rfl fun hou=>?_
 refine zA ?_
 refine ACode.loopR hΓ (α:=Nat) (fun j=>[(9,.one (int j)),(8,.one (int (x.alts.map cAlt).length)),(7,.one (.sl 2 (x.alts.map cAlt))),(1,.one (.ptr (.l 0) 0))])
  (fun j => ⟨1, [(0, .cells (cEx x))], ou⟩) (fun m j => j <= x.alts.length /\ (∀ ai ∈ x.alts.zipIdx.take j, Q3i x ai.2 ai.1 = false) /\ m = x.alts.length - j) (a0 := 0) (ρ := id) ⟨by omega, by simp, rfl⟩ (LessR.of rfl zFS (by simp) zLO rfl rfl hou) fun m j hj => ?_
 obtain⟨hjl,hno,rfl⟩:=hj
 refine zA ?_
 refine ACode.cond rfl (fun hb2=>?_) (fun hb2=>?_)
 ·have hlt:j < x.alts.length:=by simpa using hb2
  obtain⟨a,ha⟩:=Q00 hlt
  have haz:x.alts.zipIdx[j]?=some (a,j):=by simp[List.getElem?_zipIdx,ha]
  have hab:=hxb a (List.mem_of_getElem? ha)
  have bad:Q3i x j a=true->Q3s x=false:=fun h=>by
   have:x.alts.zipIdx.any (fun ai=>Q3i x ai.2 ai.1)=true:=List.any_eq_true.2 ⟨(a,j),List.mem_of_getElem? haz,h⟩
   simp[Q3s,this]
  refine zA ?_
  refine zS (zIA rfl rfl rfl (by omega) (Q0c ha)) ?_
  refine zA ?_
  refine zS (AStep.sliceTo tabOk rfl rfl rfl rfl rfl rfl (by simp;omega)) ?_
  refine AOps.freeze1 (.l 1) 4 rfl rfl ?_
  refine AOps.wk 17 rfl (y:=.one (.sl 2 ((x.alts.take j).map cAlt))) (.ofEq (by rw[List.map_take])) ?_
  refine zA ?_
  have hca:=Qk6 hΓ 111 [.box (cAlt a)] (by simp) (fun b=>b.tag==a.tag) (x.alts.take j) (by simp;omega) (fun b _=>Qm8 b a)
  obtain⟨q,hq⟩:∃q,(x.alts.take j).any (fun b=>b.tag==a.tag)=q:=⟨_,rfl⟩
  rw[hq]at hca
  refine AOps.callC hΓ hca rfl rfl rfl rfl rfl rfl rfl hou (by simp[-List.map_take]) ?_
  have fin:∀fr' σ',Q3i x j a=true->aRes tab fr' σ' Tryd.f105.results.toList=some (.one (.lit (.bool false)))->σ'.ou=ou->Abs.Fin ⟨Tryd.prog,tab,Γ,94,[]⟩ Tryd.f105 (fun r' ou'=>r'=.one (.lit (.bool (Q3s x)))/\ou'=ou) fr' σ':=fun fr' σ' h1 h2 h3=>
   APure.fin h2 (WkF.ofEq (by rw[bad h1])) (by simp) hou h3
  repeat' first|refine zN ?_|(with_reducible refine oj ?_;refine AOps.splitS rfl rfl rfl rfl (fun hb=>?_) (fun hb=>?_))|(with_reducible refine ok ?_;first|refine ACode.condS rfl (fun hb=>?_) (fun hb=>?_)|refine ACode.cond rfl (fun hb=>?_) (fun hb=>?_))
  all_goals first
   |(
    refine fin _ _ ?_ rfl rfl
    subst hq
    simp_all[Q3i]
    done)
   |(
    refine cInv ⟨x.alts.length - (j+1),j+1,fun k=>if k=0 then 0 else k,by omega,⟨by omega,Q1p hno haz ?_,rfl⟩,LessR.of rfl zFS (by simp) zLO rfl rfl hou⟩
    subst hq
    simp_all[Q3i]
    done)
 ·have hlt:j=x.alts.length:=by simp at hb2;omega
  subst hlt
  have e:Q3s x=((x.kids.length:Int)==1+x.alts.length&&(x.op==7||decide (0 < x.alts.length))):=by
   have hall:x.alts.zipIdx.any (fun ai=>Q3i x ai.2 ai.1)=false:=by
    rw[List.any_eq_false]
    intro ai hai
    have:=hno ai (by rw[List.take_of_length_le (by simp)];exact hai)
    simp[this]
   simp only[Q3s,hall,Bool.not_false,Bool.true_and]
  clear hno
  repeat' first|refine zN ?_|(with_reducible refine oj ?_;refine AOps.splitS rfl rfl rfl rfl (fun hb=>?_) (fun hb=>?_))|(with_reducible refine ok ?_;first|refine ACode.condS rfl (fun hb=>?_) (fun hb=>?_)|refine ACode.cond rfl (fun hb=>?_) (fun hb=>?_))
  all_goals
   refine APure.fin rfl (WkF.ofEq ?_) (by simp) hou rfl
   rw[e]
   simp_all
theorem arC_get{n:Int}(h0:0<=n)(h1:n<=11):(arC.drop (n.toNat * ti3.size))[0]?=some (int (Q61.getD n.toNat 0)):=by
 obtain⟨m,rfl⟩:∃m:Nat,n=m:=⟨n.toNat,by omega⟩
 have hm:m < 12:=by omega
 rw[Int.toNat_natCast,show ti3.size=1 from rfl,Nat.mul_one]
 match m,hm with
 |0,_=>rfl
 |1,_=>rfl
 |2,_=>rfl
 |3,_=>rfl
 |4,_=>rfl
 |5,_=>rfl
 |6,_=>rfl
 |7,_=>rfl
 |8,_=>rfl
 |9,_=>rfl
 |10,_=>rfl
 |11,_=>rfl
def wk (x:Ex):Int×Int×Bool:=(wants x).getD (0,0,false)
set_option maxHeartbeats 4000000 in
theorem Qke(x:Ex)(hx:okX x):APure Tryd.prog Γc 98 [.agg (cEx x)] (.one (.lit (.bool (CoreX.shape x)))):=by
 have hxa:=hx.a
 have hxb:=hx.b
 have hxk:=hx.k
 have hal:=alts_ok hΓc x hx
 intro ou
 refine AFn.walk 113 tabOk Tryd.func98 rfl (by kernel_rfl) rfl rfl fun hou=>?_
 repeat' first|(with_reducible refine oj ?_;refine AOps.auto tabOk rfl ?_)|(with_reducible first|refine o1 ?_|refine o2 ?_|refine o3 ?_|refine o4 ?_|refine o5 ?_|refine o6 ?_|refine o7 ?_|refine o8 ?_|refine oa ?_|refine ob ?_|refine oc ?_|refine od ?_|refine oe ?_|refine og ?_|refine oh ?_|refine oi ?_)|(with_reducible refine Q0s ?_ ?_;rfl)|(with_reducible refine ok ?_;first|refine ACode.condT rfl ?_|refine ACode.condF rfl ?_)|((with_reducible refine oj ?_);first|refine zad ?_|refine zsu ?_|refine zne ?_|refine zeq ?_|refine zmx ?_|refine zmn ?_|refine AOps.unG rfl rfl rfl ?_)
 refine ACode.cutR hΓc (α:=Unit) (fun _=>[(5,.one (.lit (.bool (wk x).2.2))),(4,.one (int (wk x).2.1)),(3,.one (int (wk x).1)),(1,.one (.ptr (.l 0) 0))])
  (fun _ => ⟨1, [(0, .cells (cEx x))], ou⟩) (fun _ => (wants x).isSome = true /\ ¬ (x.op = 7 ∨ x.op = 13)) ?_ fun _ ha => ?_
 ·repeat' first|refine zN ?_|(with_reducible refine oj ?_;refine AOps.splitS rfl rfl rfl rfl (fun hb=>?_) (fun hb=>?_))|(with_reducible refine ok ?_;first|refine ACode.condS rfl (fun hb=>?_) (fun hb=>?_)|refine ACode.cond rfl (fun hb=>?_) (fun hb=>?_))
  all_goals try (guard_hyp hb:(x.op==2)=true;refine ACode.drawX tabOk 4 [] follows (by kernel_rfl) rfl rfl rfl rfl .nil ?_;repeat' first|refine zN ?_|(with_reducible refine oj ?_;refine AOps.splitS rfl rfl rfl rfl (fun hb=>?_) (fun hb=>?_))|(with_reducible refine ok ?_;first|refine ACode.condS rfl (fun hb=>?_) (fun hb=>?_)|refine ACode.cond rfl (fun hb=>?_) (fun hb=>?_)))
  all_goals try (guard_hyp hb:(x.op==9)=true;refine ACode.drawX tabOk 7 [] follows (by kernel_rfl) rfl rfl rfl rfl .nil ?_;repeat' first|refine zN ?_|(with_reducible refine oj ?_;refine AOps.splitS rfl rfl rfl rfl (fun hb=>?_) (fun hb=>?_))|(with_reducible refine ok ?_;first|refine ACode.condS rfl (fun hb=>?_) (fun hb=>?_)|refine ACode.cond rfl (fun hb=>?_) (fun hb=>?_)))
  all_goals try (guard_hyp hb:(x.op==5)=true;refine ACode.drawX tabOk 9 [(3,.one (int (((x.binds.map cI).length:Int)+1))),(7,.one (int (if ((x.binds.map cI).length:Int) > 1 then ((x.binds.map cI).length:Int)else 1)))] follows (by kernel_rfl) rfl rfl rfl rfl (.step rfl (zHP (AStep.arith rfl rfl rfl (.inl ⟨rfl,rfl⟩) (Q2r (by simp;omega) (by simp;omega)))) (.step rfl (zHP (AStep.max2 (t:=3) (ty:=3) rfl rfl rfl)) .nil)) ?_;repeat' first|refine zN ?_|(with_reducible refine oj ?_;refine AOps.splitS rfl rfl rfl rfl (fun hb=>?_) (fun hb=>?_))|(with_reducible refine ok ?_;first|refine ACode.condS rfl (fun hb=>?_) (fun hb=>?_)|refine ACode.cond rfl (fun hb=>?_) (fun hb=>?_)))
  all_goals try (refine zca hΓc hal hou ?_;repeat' first|refine zN ?_|(with_reducible refine oj ?_;refine AOps.splitS rfl rfl rfl rfl (fun hb=>?_) (fun hb=>?_))|(with_reducible refine ok ?_;first|refine ACode.condS rfl (fun hb=>?_) (fun hb=>?_)|refine ACode.cond rfl (fun hb=>?_) (fun hb=>?_)))
  all_goals try (refine zca hΓc (Q4z x.n 0 11) hou ?_;repeat' first|refine zN ?_|(with_reducible refine oj ?_;refine AOps.splitS rfl rfl rfl rfl (fun hb=>?_) (fun hb=>?_))|(with_reducible refine ok ?_;first|refine ACode.condS rfl (fun hb=>?_) (fun hb=>?_)|refine ACode.cond rfl (fun hb=>?_) (fun hb=>?_)))
  all_goals try (refine zS (AStep.indexArr tabOk rfl rfl rfl rfl rfl rfl (by simp_all[between]) (by simp_all[between];show x.n < 12;omega)) ?_;refine zS (AStep.loadBox tabOk rfl rfl rfl rfl rfl (arC_get (by simp_all[between]) (by simp_all[between]))) ?_;repeat' first|refine zN ?_|(with_reducible refine oj ?_;refine AOps.splitS rfl rfl rfl rfl (fun hb=>?_) (fun hb=>?_))|(with_reducible refine ok ?_;first|refine ACode.condS rfl (fun hb=>?_) (fun hb=>?_)|refine ACode.cond rfl (fun hb=>?_) (fun hb=>?_)))
  all_goals first
   |(refine cInv ⟨(),id,⟨?_,?_⟩,LessR.of rfl (FrSub.cons rfl (.ofEq ?_) (FrSub.cons rfl (.ofEq ?_) (FrSub.cons rfl (.ofEq ?_) (FrSub.cons rfl (.ofEq rfl) .nil)))) (by simp) zLO rfl rfl hou⟩ <;> simp_all[wants,wk,FV.ren,AC.ren] <;> done)
   |(
    refine APure.fin rfl (WkF.ofEq ?_) (by simp) hou rfl
    simp_all[CoreX.shape,wants]
    done)
 ·obtain⟨hw0,hn⟩:=ha
  have hw:wants x=some (wk x):=by
   unfold wk
   cases h:wants x with
   |none=>rw[h]at hw0;cases hw0
   |some v=>rfl
  generalize wk x=kbu at hw
  obtain⟨k,b,u⟩:=kbu
  have e:CoreX.shape x=((x.kids.length:Int)==k&&(x.binds.length:Int)==b&&x.alts.length==0&&(u||x.n==0)):=by
   unfold CoreX.shape;rw[if_neg hn,hw]
  repeat' first|refine zN ?_|(with_reducible refine oj ?_;refine AOps.splitS rfl rfl rfl rfl (fun hb=>?_) (fun hb=>?_))|(with_reducible refine ok ?_;first|refine ACode.condS rfl (fun hb=>?_) (fun hb=>?_)|refine ACode.cond rfl (fun hb=>?_) (fun hb=>?_))
  all_goals
   refine APure.fin rfl (WkF.ofEq ?_) (by simp) hou rfl
   rw[e]
   simp_all
def Q32 (x:Ex)(j:Nat):Int:=(x.alts.take j).foldl (fun f a=>if (a.binds.length:Int) > f then a.binds.length else f) x.binds.length
theorem Qbf{x:Ex}{j:Nat}{a:Alt}(h:x.alts[j]?=some a):Q32 x (j+1)=if (a.binds.length:Int) > Q32 x j then (a.binds.length:Int)else Q32 x j:=by
 simp[Q32,List.take_add_one,h,List.foldl_append]
theorem Q8y{α:Type}{p:α->Bool}{l:List α}{j:Nat}{a:α}(h:l[j]?=some a)(hp:p a=false):l.all p=false:=by
 rw[List.all_eq_false]
 exact⟨a,List.mem_of_getElem? h,by simp[hp]⟩
theorem Qbk{α:Type}{p:α->Bool}{l:List α}(h:∀x∈l.take l.length,p x=true):l.all p=true:=by
 rw[List.take_length]at h
 exact List.all_eq_true.2 h
set_option maxHeartbeats 1000000 in
theorem Qib(hΓ:∀g cs,(g,cs)∈Γ->idsL isO cs)(x:Ex)(hx:okX x):APure Tryd.prog Γ 99 [.agg (cEx x)] (.one (int (ranges x))):=by
 have hxa:=hx.a
 have hxb:=hx.b
 have hxk:=hx.k
 have hab:=hx.ab
 intro ou
 refine AFn.walk 124 tabOk Tryd.func99 rfl (by kernel_rfl) rfl rfl fun hou=>?_
 repeat' first|(with_reducible refine oj ?_;refine AOps.auto tabOk rfl ?_)|(with_reducible first|refine o1 ?_|refine o2 ?_|refine o3 ?_|refine o4 ?_|refine o5 ?_|refine o6 ?_|refine o7 ?_|refine o8 ?_|refine oa ?_|refine ob ?_|refine oc ?_|refine od ?_|refine oe ?_|refine og ?_|refine oh ?_|refine oi ?_)|(with_reducible refine Q0s ?_ ?_;rfl)|(with_reducible refine ok ?_;first|refine ACode.condT rfl ?_|refine ACode.condF rfl ?_)|((with_reducible refine oj ?_);first|refine zad ?_|refine zsu ?_|refine zne ?_|refine zeq ?_|refine zmx ?_|refine zmn ?_|refine AOps.unG rfl rfl rfl ?_)
 refine ACode.cutR hΓ (α:=Unit) (fun _=>[(4,.one (int (lowN x.op))),(3,.one (int (highN x.op))),(1,.one (.ptr (.l 0) 0))])
  (fun _ => ⟨1, [(0, .cells (cEx x))], ou⟩) (fun _ => True) ?_ fun _ _ => ?_
 ·repeat' first|refine zN ?_|(with_reducible refine oj ?_;refine AOps.splitS rfl rfl rfl rfl (fun hb=>?_) (fun hb=>?_))|(with_reducible refine ok ?_;first|refine ACode.condS rfl (fun hb=>?_) (fun hb=>?_)|refine ACode.cond rfl (fun hb=>?_) (fun hb=>?_))
  all_goals
   refine cInv ⟨(),id,trivial,LessR.of rfl (FrSub.cons rfl (.ofEq ?_) (FrSub.cons rfl (.ofEq ?_) (FrSub.cons rfl (.ofEq rfl) .nil))) (by simp) zLO rfl rfl hou⟩
   all_goals simp_all[lowN,highN,FV.ren,AC.ren]
 refine zA ?_
 refine zca hΓ (Q4z x.n (lowN x.op) (highN x.op)) hou ?_
 refine zA ?_
 refine ACode.cond rfl (fun hb=>?_) (fun hb=>?_)
 ·refine zA ?_
  refine APure.fin rfl (WkF.ofEq ?_) (by simp) hou rfl
  simp_all[ranges]
 have hn:ranges x=if x.binds.all Q20=false then 4 else if x.alts.all (Q28 x.op)=false then 4 else if ((decide (fields x > (if x.op=2 then 6 else 16))||((x.op==6||x.op==15)&&decide (16 < (x.kids.length:Int))))||(x.op==3&&decide (7 < (x.kids.length:Int))))||(x.op==14&&decide (6 < (x.kids.length:Int)))then 2 else 0:=by
  unfold ranges;rw[if_neg (by simp_all)]
 clear hb
 refine zA ?_
 refine ACode.loopR hΓ (α:=Nat) (fun j=>[(35,.one (int j)),(34,.one (int (x.binds.map cI).length)),(33,.one (.sl 1 (x.binds.map cI))),(5,.one (int (x.binds.map cI).length)),(1,.one (.ptr (.l 0) 0))])
  (fun j=>⟨1,[(0,.cells (cEx x))],ou⟩) (fun m j=>j<=x.binds.length/\(∀b∈x.binds.take j,Q20 b=true)/\m=x.binds.length - j) (a0:=0) (ρ:=id) ⟨by omega,by simp,rfl⟩ (LessR.of rfl zFS (by simp) zLO rfl rfl hou) fun m j hj=>?_
 obtain⟨hjl,hno,rfl⟩:=hj
 refine zA ?_
 refine ACode.cond rfl (fun hb2=>?_) (fun hb2=>?_)
 ·have hlt:j < x.binds.length:=by simpa using hb2
  obtain⟨b,hbj⟩:=Q00 hlt
  refine zA ?_
  refine zS (zIA rfl rfl rfl (by omega) (Q0c hbj)) ?_
  refine zA ?_
  refine zca hΓ (Q4z b 0 1048575) hou ?_
  refine zA ?_
  refine ACode.cond rfl (fun hb=>?_) (fun hb=>?_)
  ·refine zA ?_
   refine APure.fin rfl (WkF.ofEq ?_) (by simp) hou rfl
   rw[hn,if_pos (Q8y hbj (by simpa[Q20]using hb))]
  ·refine zM ?_
   exact cInv ⟨x.binds.length - (j+1),j+1,id,by omega,⟨by omega,Q1p hno hbj (by simpa[Q20]using hb),rfl⟩,LessR.of rfl zFS (by simp) zLO rfl rfl hou⟩
 have hlt:j=x.binds.length:=by simp at hb2;omega
 subst hlt
 rw[if_neg (by simp[Qbk hno])]at hn
 clear hno hb2 hjl
 refine zA ?_
 refine ACode.loopR hΓ (α:=Nat) (fun j=>[(46,.one (int j)),(45,.one (int (x.alts.map cAlt).length)),(44,.one (.sl 2 (x.alts.map cAlt))),(5,.one (int (Q32 x j))),(1,.one (.ptr (.l 0) 0))])
  (fun j=>⟨1,[(0,.cells (cEx x))],ou⟩) (fun m j=>j<=x.alts.length/\(∀b∈x.alts.take j,Q28 x.op b=true)/\m=x.alts.length - j) (a0:=0) (ρ:=id) ⟨by omega,by simp,rfl⟩ (LessR.of rfl (FrSub.cons rfl (.ofEq rfl) (FrSub.cons rfl (.ofEq rfl) (FrSub.consP rfl (.ofEq rfl) (by simp) (FrSub.cons rfl (.ofEq (by simp[Q32,FV.ren,AC.ren])) (FrSub.cons rfl (.ofEq rfl) .nil))))) (by simp) zLO rfl rfl hou) fun m j hj=>?_
 obtain⟨hjl,hno,rfl⟩:=hj
 refine zA ?_
 refine ACode.cond rfl (fun hb2=>?_) (fun hb2=>?_)
 ·have hlt:j < x.alts.length:=by simpa using hb2
  obtain⟨a,ha⟩:=Q00 hlt
  have hal:=hab a (List.mem_of_getElem? ha)
  refine zA ?_
  refine zS (zIA rfl rfl rfl (by omega) (Q0c ha)) ?_
  have bad:Q28 x.op a=false->ranges x=4:=fun h=>by rw[hn,if_pos (Q8y ha h)]
  repeat' first|refine zN ?_|(with_reducible refine oj ?_;refine AOps.splitS rfl rfl rfl rfl (fun hb=>?_) (fun hb=>?_))|(with_reducible refine ok ?_;first|refine ACode.condS rfl (fun hb=>?_) (fun hb=>?_)|refine ACode.cond rfl (fun hb=>?_) (fun hb=>?_))
  all_goals try (refine APure.fin rfl (WkF.ofEq ?_) (by simp) hou rfl;rw[bad (by simp_all[Q28])];done)
  all_goals
   have hr:Q28 x.op a=a.binds.all Q20:=by
    have:((decide (255 < a.tag)&&x.op==7)||decide (1048576<=a.tag))=false:=by first|(simp_all;done)|(simp_all;intro h;omega)
    unfold Q28
    rw[this];simp
   rw[hr]at bad
   refine ACode.loopR hΓ (α:=Nat) (fun i=>[(66,.one (int i)),(65,.one (int (a.binds.map cI).length)),(64,.one (.sl 1 (a.binds.map cI))),(9,.one (.ptr (.l 1) 0)),(46,.one (int j)),(45,.one (int (x.alts.map cAlt).length)),(44,.one (.sl 2 (x.alts.map cAlt))),(5,.one (int (Q32 x j))),(1,.one (.ptr (.l 0) 0))])
    (fun i=>⟨2,[(1,.cells (cAlt a)),(0,.cells (cEx x))],ou⟩) (fun m i=>i<=a.binds.length/\(∀b∈a.binds.take i,Q20 b=true)/\m=a.binds.length - i) (a0:=0) (ρ:=id) ⟨by omega,by simp,rfl⟩ (LessR.of rfl zFS (by simp) zLO rfl rfl hou) fun m i hi=>?_
   obtain⟨hil,hno2,rfl⟩:=hi
   refine zA ?_
   refine ACode.cond rfl (fun hb3=>?_) (fun hb3=>?_)
   ·have hlt2:i < a.binds.length:=by simpa using hb3
    obtain⟨b,hbj⟩:=Q00 hlt2
    refine zA ?_
    refine zS (zIA rfl rfl rfl (by omega) (Q0c hbj)) ?_
    refine zA ?_
    refine zca hΓ (Q4z b 0 1048575) hou ?_
    refine zA ?_
    refine ACode.cond rfl (fun hb4=>?_) (fun hb4=>?_)
    ·refine zA ?_
     refine APure.fin rfl (WkF.ofEq ?_) (by simp) hou rfl
     rw[bad (Q8y hbj (by simpa[Q20]using hb4))]
    ·refine zM ?_
     exact cInv ⟨a.binds.length - (i+1),i+1,id,by omega,⟨by omega,Q1p hno2 hbj (by simpa[Q20]using hb4),rfl⟩,LessR.of rfl zFS (by simp) zLO rfl rfl hou⟩
   ·have hlt2:i=a.binds.length:=by simp at hb3;omega
    subst hlt2
    refine zM ?_
    refine cInv ⟨x.alts.length - (j+1),j+1,id,by omega,⟨by omega,Q1p hno ha (by rw[hr];exact Qbk hno2),rfl⟩,LessR.of rfl (FrSub.cons rfl (.ofEq rfl) (FrSub.cons rfl (.ofEq rfl) (FrSub.consP rfl (.ofEq rfl) (by simp) (FrSub.cons rfl (.ofEq ?_) (FrSub.cons rfl (.ofEq rfl) .nil))))) (by simp) zLO rfl rfl hou⟩
    rw[Qbf ha];simp[FV.ren,AC.ren]
 ·have hlt:j=x.alts.length:=by simp at hb2;omega
  subst hlt
  rw[if_neg (by simp[Qbk hno])]at hn
  have hf:Q32 x x.alts.length=fields x:=by simp[Q32,fields]
  rw[hf]
  clear hno hb2 hjl hf
  generalize fields x=f at hn
  repeat' first|refine zN ?_|(with_reducible refine oj ?_;refine AOps.splitS rfl rfl rfl rfl (fun hb=>?_) (fun hb=>?_))|(with_reducible refine ok ?_;first|refine ACode.condS rfl (fun hb=>?_) (fun hb=>?_)|refine ACode.cond rfl (fun hb=>?_) (fun hb=>?_))
  all_goals
   refine APure.fin rfl (WkF.ofEq ?_) (by simp) hou rfl
   rw[hn]
   simp_all
theorem Qhq{x:Ex}(h:CoreX.shape x=true)(h5:x.op=5):x.kids.length=x.binds.length+1:=by
 unfold CoreX.shape wants at h
 simp[h5]at h
 omega
set_option maxHeartbeats 1000000 in
theorem Qcd(e:List Ex)(x:Ex)(hx:okX x)(hk:∀k∈x.kids,0<=k/\k.toNat < e.length):
  APure Tryd.prog Γc 80 [.agg (cEx x),.one (.fn (.func 81) [] [.box [.sl 5 (e.map cEx)]])] (.one (int (Q1o e x))):=by
 have hxb:=hx.b
 intro ou
 refine AFn.walk 59 tabOk Tryd.func80 rfl (by kernel_rfl) rfl rfl fun hou=>?_
 refine zA ?_
 refine zca hΓc (Qke x hx) hou ?_
 refine zA ?_
 refine ACode.cond rfl (fun hb=>?_) (fun hb=>?_)
 ·refine zA ?_
  refine APure.fin rfl (WkF.ofEq ?_) (by simp) hou rfl
  simp_all[Q1o]
 have hs:CoreX.shape x=true:=by simpa using hb
 clear hb
 refine zA ?_
 refine zca hΓc (Qib hΓc x hx) hou ?_
 refine zA ?_
 refine ACode.cond rfl (fun hb=>?_) (fun hb=>?_)
 ·refine zA ?_
  refine APure.fin rfl (WkF.ofEq ?_) (by simp) hou rfl
  have:ranges x≠0:=by simpa using hb
  simp[Q1o,hs,this]
 have hr:ranges x=0:=by simpa using hb
 clear hb
 have hn:Q1o e x=if (List.range x.binds.length).any (Q1i e x)=true then 3 else 0:=by simp[Q1o,hs,hr]
 refine zA ?_
 refine ACode.loopR hΓc (α:=Nat) (fun j=>[(18,.one (int j)),(17,.one (int (x.binds.map cI).length)),(2,.one (.ptr (.l 0) 0)),(1,.one (.fn (.func 81) [] [.box [.sl 5 (e.map cEx)]]))])
  (fun j => ⟨1, [(0, .cells (cEx x))], ou⟩) (fun m j => j <= x.binds.length /\ (∀ i ∈ (List.range x.binds.length).take j, Q1i e x i = false) /\ m = x.binds.length - j) (a0 := 0) (ρ := id) ⟨by omega, by simp, rfl⟩ (LessR.of rfl zFS (by simp) zLO rfl rfl hou) fun m j hj => ?_
 obtain⟨hjl,hno,rfl⟩:=hj
 refine zA ?_
 refine ACode.cond rfl (fun hb2=>?_) (fun hb2=>?_)
 ·have hlt:j < x.binds.length:=by simpa using hb2
  have hrj:(List.range x.binds.length)[j]?=some j:=by simp[hlt]
  obtain⟨b,hbj⟩:=Q00 hlt
  refine zA ?_
  have bad:Q1i e x j=true->Q1o e x=3:=fun h=>by
   rw[hn,if_pos (List.any_eq_true.2 ⟨j,by simp[hlt],h⟩)]
  by_cases h5:x.op=5
  ·have hkl:j < x.kids.length:=by have:=Qhq hs h5;omega
   obtain⟨k,hkj⟩:=Q00 hkl
   obtain⟨k0,k1⟩:=hk k (List.mem_of_getElem? hkj)
   obtain⟨y,hy⟩:=Q00 k1
   have hcall:=Qm5 (Γ:=Γc) e k y k0 hy
   have hbb:Q1i e x j=!(y.op==2):=by
    have e1:x.kids.getD j 0=k:=by simp[List.getD,hkj]
    have e2:e.getD k.toNat ⟨0,0,[],[],[]⟩=y:=by simp[List.getD,hy]
    unfold Q1i
    rw[e1,e2];simp[h5]
   rw[hbb]at bad
   cases hy2:(y.op==2) with
   |false=>
    refine ACode.drawX tabOk 36 [(2,.one (.lit (.bool true))),(8,.one (.box (cI k))),(10,.agg (cEx y)),(12,.one (.lit (.bool true)))] follows (by kernel_rfl) rfl rfl rfl rfl ?_ ?_
    ·refine .step rfl (HStep.litB tabOk rfl (by simp[h5])) ?_
     refine .step rfl (HStep.guarded rfl rfl rfl (zIA rfl rfl rfl (by omega) (Q0c hkj))) ?_
     refine .step rfl (HStep.guarded rfl rfl rfl (AStep.callP hΓc rfl rfl rfl rfl (by simp) hou hcall)) ?_
     exact .step rfl (HStep.litB tabOk rfl (by simp_all)) .nil
    refine zM ?_
    refine APure.fin rfl (WkF.ofEq ?_) (by simp) hou rfl
    rw[bad (by simp[hy2])]
   |true=>
    refine ACode.drawX tabOk 36 [(2,.one (.lit (.bool true))),(8,.one (.box (cI k))),(10,.agg (cEx y)),(12,.one (.lit (.bool false))),(17,.one (.lit (.bool false)))] follows (by kernel_rfl) rfl rfl rfl rfl ?_ ?_
    ·refine .step rfl (HStep.litB tabOk rfl (by simp[h5])) ?_
     refine .step rfl (HStep.guarded rfl rfl rfl (zIA rfl rfl rfl (by omega) (Q0c hkj))) ?_
     refine .step rfl (HStep.guarded rfl rfl rfl (AStep.callP hΓc rfl rfl rfl rfl (by simp) hou hcall)) ?_
     refine .step rfl (HStep.litB tabOk rfl (by simp_all)) ?_
     exact .step rfl (HStep.litB tabOk rfl (by simp[h5])) .nil
    refine zM ?_
    exact cInv ⟨x.binds.length - (j+1),j+1,id,by omega,⟨by omega,Q1p hno hrj (by rw[hbb,hy2];rfl),rfl⟩,LessR.of rfl zFS (by simp) zLO rfl rfl hou⟩
  ·by_cases h9:x.op=9
   ·cases j with
    |zero=>
     have hbb:Q1i e x 0=false:=by simp[Q1i,h5]
     refine ACode.drawX tabOk 36 [(2,.one (.lit (.bool false))),(17,.one (.lit (.bool true))),(20,.one (.lit (.bool false)))] follows (by kernel_rfl) rfl rfl rfl rfl ?_ ?_
     ·refine .step rfl (HStep.litB tabOk rfl (by simp[h5])) ?_
      refine .step rfl (HStep.litB tabOk rfl (by simp[h9])) ?_
      exact .step rfl (HStep.litB tabOk rfl (by decide)) .nil
     refine zM ?_
     exact cInv ⟨x.binds.length - 1,1,id,by omega,⟨by omega,Q1p hno hrj hbb,rfl⟩,LessR.of rfl zFS (by simp) zLO rfl rfl hou⟩
    |succ j=>
     obtain⟨a,haj⟩:=Q00 (l:=x.binds) (i:=j) (by omega)
     have hbb:Q1i e x (j+1)=decide (a ≥ b):=by
      have e1:x.binds.getD j 0=a:=by simp[List.getD,haj]
      have e2:x.binds.getD (j+1) 0=b:=by simp[List.getD,hbj]
      unfold Q1i
      rw[show j+1 - 1=j from rfl,e1,e2];simp[h5,h9]
     refine ACode.drawX tabOk 36 [(2,.one (.lit (.bool false))),(17,.one (.lit (.bool true))),(20,.one (.lit (.bool true))),(26,.one (int j)),(27,.one (.box (cI a))),(32,.one (.box (cI b)))] follows (by kernel_rfl) rfl rfl rfl rfl ?_ ?_
     ·refine .step rfl (HStep.litB tabOk rfl (by simp[h5])) ?_
      refine .step rfl (HStep.litB tabOk rfl (by simp[h9])) ?_
      refine .step rfl (HStep.litB tabOk rfl (by exact decide_eq_true (by omega))) ?_
      refine .step rfl (HStep.guarded rfl rfl rfl (AStep.arith rfl rfl rfl (.inr (.inl ⟨rfl,by omega⟩)) zI)) ?_
      refine .step rfl (HStep.guarded rfl rfl rfl (zIA rfl rfl rfl (by omega) (Q0c haj))) ?_
      exact .step rfl (HStep.guarded rfl rfl rfl (zIA rfl rfl rfl (by omega) (Q0c hbj))) .nil
     refine zA ?_
     refine ACode.cond rfl (fun hb=>?_) (fun hb=>?_)
     ·refine zA ?_
      refine APure.fin rfl (WkF.ofEq ?_) (by simp) hou rfl
      rw[bad (by rw[hbb];exact hb)]
     ·refine zM ?_
      exact cInv ⟨x.binds.length - (j+1+1),j+1+1,id,by omega,⟨by omega,Q1p hno hrj (by rw[hbb];exact hb),rfl⟩,LessR.of rfl zFS (by simp) zLO rfl rfl hou⟩
   ·have hbb:Q1i e x j=false:=by simp[Q1i,h5,h9]
    refine ACode.drawX tabOk 36 [(2,.one (.lit (.bool false))),(17,.one (.lit (.bool false)))] follows (by kernel_rfl) rfl rfl rfl rfl ?_ ?_
    ·refine .step rfl (HStep.litB tabOk rfl (by simp[h5])) ?_
     exact .step rfl (HStep.litB tabOk rfl (by simp[h9])) .nil
    refine zM ?_
    exact cInv ⟨x.binds.length - (j+1),j+1,id,by omega,⟨by omega,Q1p hno hrj hbb,rfl⟩,LessR.of rfl zFS (by simp) zLO rfl rfl hou⟩
 ·have hlt:j=x.binds.length:=by simp at hb2;omega
  subst hlt
  have:(List.range x.binds.length).any (Q1i e x)=false:=by
   rw[List.any_eq_false]
   intro i hi
   simp[hno i (by rw[List.take_of_length_le (by simp)];exact hi)]
  refine zA ?_
  refine APure.fin rfl (WkF.ofEq ?_) (by simp) hou rfl
  rw[hn,this];rfl
theorem Qmi(hΓ:∀g cs,(g,cs)∈Γ->idsL isO cs)(t:Tr)(k:Int)(hk:-1048576<=k/\k<=1048576)(ha:t.alts.length<=1048576):
  APure Tryd.prog Γ 107 [.one (.box (cTr t)),.one (int k)] (.one (.sl 1 ((Q1c t.op t.binds t.alts k).map cI))):=by
 intro ou
 refine AFn.walk 58 tabOk Tryd.func107 rfl (by kernel_rfl) rfl rfl fun hou=>?_
 repeat' first|refine zN ?_|(with_reducible refine oj ?_;refine AOps.splitS rfl rfl rfl rfl (fun hb=>?_) (fun hb=>?_))|(with_reducible refine ok ?_;first|refine ACode.condS rfl (fun hb=>?_) (fun hb=>?_)|refine ACode.cond rfl (fun hb=>?_) (fun hb=>?_))
 all_goals try
  (
  have h1:0 < k:=by simp_all
  have h2:k<=t.alts.length:=by simp_all
  obtain⟨a,ha2⟩:=Q00 (l:=t.alts) (i:=(k - 1).toNat) (by omega)
  refine zS (zIA rfl rfl rfl (by omega) (Q0c ha2)) ?_
  have hb2:Q1c t.op t.binds t.alts k=a.binds:=by
   have e1:t.alts.getD (k - 1).toNat ⟨0,[]⟩=a:=by rw[List.getD_eq_getElem?_getD,ha2];rfl
   unfold Q1c
   rw[if_neg (by simp_all),if_pos (by omega),e1]
  rw[hb2]
  repeat' first|refine zN ?_|(with_reducible refine oj ?_;refine AOps.splitS rfl rfl rfl rfl (fun hb=>?_) (fun hb=>?_))|(with_reducible refine ok ?_;first|refine ACode.condS rfl (fun hb=>?_) (fun hb=>?_)|refine ACode.cond rfl (fun hb=>?_) (fun hb=>?_))
  exact APure.fin rfl (WkF.ofEq rfl) (by simp) hou rfl)
 all_goals first
  |(
   refine APure.fin rfl (WkF.ofEq ?_) (by simp) hou rfl
   simp_all[Q1c]
   done)
  |(
   refine APure.fin rfl (.trans (.one (.nilS 1)) (.ofEq ?_)) (by simp) hou rfl
   simp_all[Q1c]
   done)
  |(
   refine APure.fin rfl (.trans (.one (.nilS 1)) (.ofEq ?_)) (by simp) hou rfl
   simp_all[Q1c]
   intros;omega)
def Q4p (pre:List Int)(al:List Alt)(j:Nat):List Int:=pre++(al.take j).flatMap (·.binds)
theorem Q5b{pre:List Int}{al:List Alt}{j:Nat}{a:Alt}(h:al[j]?=some a):Q4p pre al (j+1)=Q4p pre al j++a.binds:=by
 simp[Q4p,List.take_add_one,h,List.flatMap_append]
def Qe2 (t:Tr):Nat:=t.binds.length+(t.alts.flatMap (·.binds)).length
theorem Qh7{pre:List Int}{al:List Alt}(j:Nat):(Q4p pre al j).length<=pre.length+(al.flatMap (·.binds)).length:=by
 simp only[Q4p,List.length_append]
 have:((al.take j).flatMap (·.binds)).length<=(al.flatMap (·.binds)).length:=by
  conv=>rhs;rw[←List.take_append_drop j al,List.flatMap_append,List.length_append]
  omega
 omega
theorem Qha(hΓ:∀g cs,(g,cs)∈Γ->idsL isO cs)(t:Tr)(hl:Qe2 t<=4194304)(ha:t.alts.length<=1048576):
  APure Tryd.prog Γ 74 [.one (.box (cTr t))] (.one (.sl 1 ((Q08 t.op t.binds t.alts).map cI))):=by
 unfold Qe2 at hl
 intro ou
 refine AFn.walk 46 tabOk Tryd.func74 rfl (by kernel_rfl) rfl rfl fun hou=>?_
 iterate 11 (first|((with_reducible refine oj ?_);refine zau ?_)|(with_reducible refine zst ?_)|((with_reducible refine Q0s ?_ ?_);rfl)|(with_reducible refine ok ?_;first|refine ACode.condT rfl ?_|refine ACode.condF rfl ?_))
 refine ACode.growS 3 3 1 rfl ?_
 have he0:Q08 t.op t.binds t.alts=Q4p (if t.op=2∨t.op=4∨t.op=5 then t.binds else []) t.alts t.alts.length:=by simp[Q08,Q4p]
 obtain⟨pre,hpre⟩:∃pre,pre=(if t.op=2∨t.op=4∨t.op=5 then t.binds else []):=⟨_,rfl⟩
 rw[he0,←hpre]
 have hpl:pre.length<=t.binds.length:=by rw[hpre];split <;> simp
 refine ACode.cutR hΓ (α:=Unit) (fun _=>[(3,.one (.gs 1 (pre.map cI) (.l 0))),(0,.one (.box (cTr t)))])
  (fun _ => ⟨1, [(0, .tok 3 1 pre.length)], ou⟩) (fun _ => True) ?_ fun _ _ => ?_
 ·repeat' first|refine zN ?_|(with_reducible refine oj ?_;refine AOps.splitS rfl rfl rfl rfl (fun hb=>?_) (fun hb=>?_))|(with_reducible refine ok ?_;first|refine ACode.condS rfl (fun hb=>?_) (fun hb=>?_)|refine ACode.cond rfl (fun hb=>?_) (fun hb=>?_))
  all_goals first
   |(
    have:pre=t.binds:=by simp_all
    subst this
    refine AOps.app tabOk rfl rfl rfl rfl rfl rfl rfl rfl rfl (Base.gs' _ _ _ _ _ (by rfl) (by simp)) (.sl _ _) rfl (by simp;show _ * 8<=_;omega) (by simp;omega) ?_
    repeat' first|refine zN ?_|(with_reducible refine oj ?_;refine AOps.splitS rfl rfl rfl rfl (fun hb=>?_) (fun hb=>?_))|(with_reducible refine ok ?_;first|refine ACode.condS rfl (fun hb=>?_) (fun hb=>?_)|refine ACode.cond rfl (fun hb=>?_) (fun hb=>?_))
    exact cInv ⟨(),fun _=>1,trivial,LessR.of rfl (FrSub.consGs rfl rfl (by simp) (FrSub.consP rfl (.ofEq rfl) (by simp) .nil)) (by simp) (LoSub.cons rfl (by simp[AObj.ren];rfl) rfl (by simp) .nil) rfl rfl hou⟩)
   |(
    have:pre=[]:=by simp_all
    subst this
    exact cInv ⟨(),id,trivial,LessR.of rfl (FrSub.consGs rfl rfl (by simp) (FrSub.consP rfl (.ofEq rfl) (by simp) .nil)) (by simp) zLO rfl rfl hou⟩)
 clear hpre he0
 refine zA ?_
 refine ACode.loopR hΓ (α:=Nat) (fun j=>[(36,.one (int j)),(35,.one (int (t.alts.map cAlt).length)),(34,.one (.sl 2 (t.alts.map cAlt))),(3,.one (.gs 1 ((Q4p pre t.alts j).map cI) (.l 0))),(0,.one (.box (cTr t)))])
  (fun j=>⟨1,[(0,.tok 3 1 (Q4p pre t.alts j).length)],ou⟩) (fun m j=>j<=t.alts.length/\m=t.alts.length - j) (a0:=0) (ρ:=id) ⟨by omega,rfl⟩
  (LessR.of rfl (FrSub.cons rfl (.ofEq rfl) (FrSub.cons rfl (.ofEq rfl) (FrSub.consP rfl (.ofEq rfl) (by simp) (FrSub.consGs (by simp[Q4p];rfl) rfl (by simp) (FrSub.consP rfl (.ofEq rfl) (by simp) .nil))))) (by simp) (LoSub.cons rfl (by simp[AObj.ren,Q4p]) rfl (by simp) .nil) rfl rfl hou) fun m j hj=>?_
 obtain⟨hjl,rfl⟩:=hj
 refine zA ?_
 refine ACode.cond rfl (fun hb2=>?_) (fun hb2=>?_)
 ·have hlt:j < t.alts.length:=by simpa using hb2
  obtain⟨a,ha2⟩:=Q00 hlt
  have hbl:=Qh7 (pre:=pre) (al:=t.alts) (j+1)
  rw[Q5b ha2]at hbl
  simp only[List.length_append]at hbl
  refine zA ?_
  refine zS (zIA rfl rfl rfl (by omega) (Q0c ha2)) ?_
  refine zA ?_
  refine AOps.app tabOk rfl rfl rfl rfl rfl rfl rfl rfl rfl (Base.gs' _ _ _ _ _ (by rfl) (by simp)) (.sl _ _) rfl (by simp;show _ * 8<=_;omega) (by simp;omega) ?_
  refine zM ?_
  exact cInv ⟨t.alts.length - (j+1),j+1,fun _=>2,by omega,⟨by omega,rfl⟩,LessR.of rfl (FrSub.cons rfl (.ofEq rfl) (FrSub.cons rfl (.ofEq rfl) (FrSub.consP rfl (.ofEq rfl) (by simp) (FrSub.consGs (by rw[Q5b ha2,List.map_append];rfl) rfl (by simp) (FrSub.consP rfl (.ofEq rfl) (by simp) .nil))))) (by simp) (LoSub.cons rfl (by simp[AObj.ren,Q5b ha2];rfl) rfl (by simp) .nil) rfl rfl hou⟩
 ·have hlt:j=t.alts.length:=by simp at hb2;omega
  subst hlt
  refine zA ?_
  exact APure.fin rfl (.one (.gsE rfl)) (by simp) hou rfl
end Go.Proofs.YthboaankaaeemaaDoor
namespace Go.Abs
theorem AStep.buildSlice0{E:Env}{o:Oper}{fr:Fr}{σ:St}{t:TypeId}{ti tj:TI}{s:Nat}(hT:TabOk E.P E.T)(ho:o.op=.buildSlice t 0 #[])(ht:Tab.get t E.T=some ti)(hk:Nat.beq ti.kind 2=true)(hj:Tab.get ti.elem E.T=some tj)(hs:tj.size=s):
  AStep E o fr σ (.one (.gs s [] (.l σ.n))) (σ.push (.tok ti.elem s 0)):=by
 intro F w C tmps hi hf next Q hk2
 have hsl:=(hT t ti ht).slice (Nat.eq_of_beq_eq_true hk)
 have hsz:=(hT _ _ hj).run_sizeOf w
 have hrun:(execOp (Act.eval ⟨tmps,E.ds⟩) o).run E.P w=.ok (.value (.slice (some ⟨w.heap.size,0,none⟩) 0 0)) (w.alloc (.cells #[] ti.elem)):=by
  unfold execOp
  simp only[ho]
  simp[Instr.buildSlice,run_underlying hsl,hsz,Instr.fill,newRow,Array.range_zero']
 have hno:=Ctx.tokd_new C (some (w.heap.size,0)) (fun _=>False) hi.next
 have he:Ext w C (w.alloc (.cells #[] ti.elem)) (C.tokd (some (w.heap.size,0)) (fun _=>False)):=⟨fun a ha=>World.cell?_alloc_lt _ _ _ (hi.prot a ha),fun _ h=>.inl h,fun i _ ho=>Ctx.tokd_old C _ _ ho⟩
 have hadd:Inv E.Γ F (w.alloc (.cells #[] ti.elem)) (C.tokd (some (w.heap.size,0)) (fun _=>False)) (σ.push (.tok ti.elem s 0)):=by
  refine hi.addObj (o:=.tok ti.elem s 0) (d:=.l σ.n) (σ.get_push _) he ?_ ?_ ?_ ?_ ?_ hno.1 ?_ ?_
  ·simp[Ctx.tokd,Ctx.more,St.push,hi.next]
  ·intro k hk;have:=hi.base k hk;simp;omega
  ·intro a ha
   rcases ha with ha|ha
   ·have:=hi.prot a ha;simp;omega
   ·exact ha.elim
  ·intro i p hp g x hb hx;exact Q2m w _ hx
  ·intro i p hp a hb hlt ha;exact ha.resolve_right id
  ·simp only[ObjOk,hno.2]
   refine⟨#[],heap_alloc_new w _,fun hF=>by have:=hi.base _ hF;omega,by simp,Nat.le_refl _,by simp[maxLen],fun a ha hp=>?_⟩
   rcases hp with hp|hp
   ·have:=hi.prot a hp;omega
   ·exact hp.elim
  ·intro i p g hp hb hb2
   simp only[AObj.block,hno.2,Option.map_some,Option.some.injEq]at hb2
   have:=(AObj.block_lt (hi.obj i p hp).2 hb).2
   omega
 unfold Oper.wp
 rw[hrun,Oper.upon_value]
 refine hk2 _ _ _ ⟨Stp.alloc hi.base _ _,he,by simp[Ctx.tokd,Ctx.more],fun a ha=>ha.imp id (fun h=>h.elim)⟩ hadd ?_
 simp only[RF,R]
 exact⟨hno.1,.inr ⟨_,0,rfl,Nat.le_refl _,hno.2,by simp[RS]⟩⟩
theorem ACode.drawXH{E:Env}{id:Nat}{l hd tl:List Oper}{K:Cont}{fr frb fr':Fr}{σ σ1:St}{vs:List FV}{va:FV}{oal:Oper}(hT:TabOk E.P E.T)(n al:Nat)(cs:List (Nat×FV))(hm:E.P.follows .mixedOrders=true)(hB:drawB l n=true)(haln:Nat.ble (al+1) n=true)(hsp:Q35 n l=some (hd,tl))(hfb:Fr.woO (dsts hd) fr=some frb)
  (hoal:l[al]?=some oal) (hrun:Q0f E l.toArray l frb σ ((al,va)::cs) 0 hd []=some vs) (hrun1:Q0f E l.toArray l frb σ1 ((al,va)::cs) 0 hd []=some vs) (hfr:frOf hd vs frb=some fr') (hal:HStep E l.toArray oal (depFr l vs oal++frb) σ σ1 va) (hcs:Q0n E l frb σ vs cs) (hcs1:Q0n E l frb σ1 vs cs) (htail:AOps E l.toArray tl K fr' σ1):ACode E (.region id l.toArray true) K fr σ:=by
 obtain⟨h1,h2⟩:=Q21 hsp
 subst h1;subst h2
 have h3:=Fr.woO_eq hfb
 have h4:=Q6o hfr
 have hn:n < l.length:=by
  simp only[drawB,Bool.and_eq_true,decide_eq_true_eq]at hB
  exact hB.1.1.1.1.1
 have hlast:((l.take n).zipIdx.all fun x=>x.1.after.all fun e=>!Region.binds .any e||decide (e.on < x.2))=true:=by
  simp only[drawB,Bool.and_eq_true]at hB
  exact hB.2
 refine ACode.drawAF n al vs _ hm haln hB rfl frb h3 (Q4e (n:=n) (va:=va) hT (fun k o hk hkn=>?_) hoal hal hcs hcs1 _ 0 [] vs rfl (fun i o hi=>?_) hrun hrun1 rfl) (by rw[h4];exact htail)
 ·have:=List.all_eq_true.1 hlast (o,k) (by
   rw[List.mem_iff_getElem?]
   exact⟨k,by rw[List.getElem?_zipIdx,List.getElem?_take_of_lt hkn,hk];simp⟩)
  exact this
 ·have hi2:i < n:=by
   have:=(List.getElem?_eq_some_iff.1 hi).1
   simp at this;omega
  rw[List.getElem?_take_of_lt hi2]at hi
  exact⟨by simpa using hi,by omega⟩
end Go.Abs
namespace Go.Proofs.YthboaankaaeemaaDoor
open Go Go.Abs Go.CoreX
variable {Γ:List (Nat×List AC)}
theorem Q7j(l:List Int)(hl:l.length<=1048576):APure Tryd.prog Γ 66 [.one (.sl 1 (l.map cI))] (.one (.sl 1 (l.map cI))):=by
 intro ou
 refine AFn.walk 8 tabOk Tryd.func66 rfl (by kernel_rfl) rfl rfl fun hou=>?_
 refine zA ?_
 refine AOps.nilTest rfl rfl rfl rfl Tryd.underlying30 rfl rfl fun b hb=>?_
 cases b with
 |true=>
  have hz:l=[]:=by have:=hb rfl;simpa using this
  subst hz
  refine zA ?_
  exact APure.fin rfl (.one (.nilS 1)) (by simp) hou rfl
 |false=>
  refine zA ?_
  refine zS (AStep.buildSlice0 tabOk rfl rfl rfl rfl rfl) ?_
  refine zA ?_
  refine AOps.app tabOk rfl rfl rfl rfl rfl rfl rfl rfl rfl (Base.gs' _ _ _ _ _ (by rfl) (by simp)) (.sl _ _) rfl (by simp;show _ * 8<=_;omega) (by simp;omega) ?_
  refine zA ?_
  exact APure.fin rfl (.one (.gsE (by simp))) (by simp) hou rfl
section
variable {β:Type}
def encI (enc:β->FV)(l:List (Nat×Int×β)):List (Nat×Value×FV):=l.map fun x=>(x.1,.int .i64 x.2.1,enc x.2.2)
structure IMOk (f:Int->Option β)(ck:Nat)(l:List (Nat×Int×β)):Prop where
 born:∀x∈l,x.1 < ck
 nb:(l.map (·.1)).Nodup
 look:∀k,(l.find? (fun x=>x.2.1==k)).map (·.2.2)=f k
 nk:(l.map (·.2.1)).Nodup
def setF (f:Int->Option β)(k:Int)(v:β):Int->Option β:=fun j=>if k=j then some v else f j
theorem IMOk.nil:IMOk (fun _=>none:Int->Option β) 0 []:=⟨by simp,by simp,fun k=>rfl,by simp⟩
variable (enc:β->FV)
theorem keysI(l:List (Nat×Int×β)):Qg4 (.int .i64) (encI enc l):=by
 intro x hx
 simp only[encI,List.mem_map]at hx
 obtain⟨y,_,rfl⟩:=hx
 rfl
theorem Qeg(k:Int):Instr.sameNow (.int .i64) (.int .i64 k) (.int .i64 k)=some true:=by simp[Instr.sameNow]
theorem Qhs{k j:Int}(h:k≠j):Instr.sameNow (.int .i64) (.int .i64 k) (.int .i64 j)=some false:=by simp[Instr.sameNow,h]
theorem Qiw(k:Int):∀l:List (Nat×Int×β),mFind (.int .i64 k) (encI enc l)=((l.find? (fun x=>x.2.1==k)).map (·.2.2)).map enc
 |[]=>rfl
 |(b,j,t)::l=>by
  have ih:=Qiw k l
  simp only[encI,List.map_cons,mFind,Q6i,List.find?_cons]at ih ⊢
  by_cases e:j=k
  ·subst e
   simp[Qeg]
  ·rw[Qhs (Ne.symm e),beq_eq_false_iff_ne.2 e]
   exact ih
theorem Qf7{f:Int->Option β}{ck:Nat}{l:List (Nat×Int×β)}(h:IMOk f ck l)(k:Int):mFind (.int .i64 k) (encI enc l)=(f k).map enc:=by rw[Qiw,h.look]
def repl (k:Int)(v:β)(l:List (Nat×Int×β)):List (Nat×Int×β):=l.map fun x=>if x.2.1=k then (x.1,k,v)else x
theorem mPut_I(k:Int)(v:β)(ck:Nat):∀l:List (Nat×Int×β),(l.map (·.2.1)).Nodup->mPut (.int .i64 k) (enc v) ck (encI enc l)=if k∈l.map (·.2.1)then (encI enc (repl k v l),ck)else (encI enc (l++[(ck,k,v)]),ck+1)
 | [], _ => rfl
 | (b, j, t) :: l, hn => by
  simp only[List.map_cons,List.nodup_cons]at hn
  have ih:=mPut_I k v ck l hn.2
  simp only[encI,List.map_cons,mPut,Q6i,List.cons_append]at ih ⊢
  by_cases e:j=k
  ·subst e
   rw[Qeg,if_pos (by simp)]
   have:repl j v l=l:=by
    unfold repl
    rw[List.map_congr_left (g:=id),List.map_id]
    intro x hx
    rw[if_neg];rfl
    rintro e
    exact hn.1 (e▸List.mem_map_of_mem hx)
   have h2:repl j v ((b,j,t)::l)=(b,j,v)::l:=by
    have:repl j v ((b,j,t)::l)=(b,j,v)::repl j v l:=by simp[repl]
    rw[this];congr 1
   rw[h2];rfl
  ·rw[Qhs (Ne.symm e)]
   simp only[ih]
   by_cases hm:k∈l.map (·.2.1)
   ·rw[if_pos hm,if_pos (by simp[hm])]
    have h2:repl k v ((b,j,t)::l)=(b,j,t)::repl k v l:=by simp[repl,e]
    rw[h2];rfl
   ·rw[if_neg hm,if_neg (by simp only[List.mem_cons,not_or];exact⟨Ne.symm e,hm⟩)]
theorem IMOk.put{f:Int->Option β}{ck:Nat}{l:List (Nat×Int×β)}(h:IMOk f ck l)(k:Int)(v:β):∃ck' l',mPut (.int .i64 k) (enc v) ck (encI enc l)=(encI enc l',ck')/\IMOk (setF f k v) ck' l':=by
 rw[mPut_I enc k v ck l h.nk]
 by_cases hm:k∈l.map (·.2.1)
 ·rw[if_pos hm]
  refine⟨_,_,rfl,?_,?_,fun j=>?_,?_⟩
  ·intro x hx
   obtain⟨y,hy,rfl⟩:=List.mem_map.1 hx
   have:=h.born y hy
   split <;> exact this
  ·have:(repl k v l).map (·.1)=l.map (·.1):=by
    simp only[repl,List.map_map]
    refine List.map_congr_left fun x _=>?_
    simp only[Function.comp];split <;> rfl
   rw[this];exact h.nb
  ·have key:∀l:List (Nat×Int×β),k∈l.map (·.2.1)->((repl k v l).find? (fun x=>x.2.1==j)).map (·.2.2)=if k=j then some v else (l.find? (fun x=>x.2.1==j)).map (·.2.2):=by
    intro l
    induction l with
    |nil=>intro h;simp at h
    |cons y l ih=>
     intro hm
     obtain⟨b,i,t⟩:=y
     by_cases e:i=k
     ·subst e
      have h2:repl i v ((b,i,t)::l)=(b,i,v)::repl i v l:=by simp[repl]
      rw[h2,List.find?_cons,List.find?_cons]
      by_cases e2:i=j
      ·subst e2;simp
      ·simp only[beq_eq_false_iff_ne.2 e2,if_neg e2]
       by_cases hm2:i∈l.map (·.2.1)
       ·rw[ih hm2,if_neg e2]
       ·have:repl i v l=l:=by
         unfold repl
         rw[List.map_congr_left (g:=id),List.map_id]
         intro x hx
         rw[if_neg];rfl
         rintro e
         exact hm2 (e▸List.mem_map_of_mem hx)
        rw[this]
     ·have h2:repl k v ((b,i,t)::l)=(b,i,t)::repl k v l:=by simp[repl,e]
      have hm2:k∈l.map (·.2.1):=by
       rcases List.mem_cons.1 hm with h3|h3
       ·exact absurd h3.symm e
       ·exact h3
      rw[h2,List.find?_cons,List.find?_cons]
      by_cases e2:i=j
      ·subst e2;simp[Ne.symm e]
      ·simp only[beq_eq_false_iff_ne.2 e2]
       exact ih hm2
   rw[key l hm]
   unfold setF
   rw[h.look]
  ·have:(repl k v l).map (·.2.1)=l.map (·.2.1):=by
    simp only[repl,List.map_map]
    refine List.map_congr_left fun x _=>?_
    simp only[Function.comp]
    split
    ·rename_i e;exact e.symm
    ·rfl
   rw[this];exact h.nk
 ·rw[if_neg hm]
  refine⟨_,_,rfl,?_,?_,fun j=>?_,?_⟩
  ·intro x hx
   rcases List.mem_append.1 hx with hx|hx
   ·have:=h.born x hx;omega
   ·simp at hx;subst hx;exact Nat.lt_succ_self _
  ·rw[List.map_append,List.nodup_append]
   refine⟨h.nb,by simp,fun a ha b hb e=>?_⟩
   simp at hb
   obtain⟨x,hx,rfl⟩:=List.mem_map.1 ha
   have:=h.born x hx
   omega
  ·rw[List.find?_append]
   unfold setF
   by_cases e:k=j
   ·subst e
    rw[if_pos rfl,List.find?_eq_none.2 (fun x hx=>by simp;rintro e;exact hm (e▸List.mem_map_of_mem hx))]
    simp
   ·rw[if_neg e,←h.look j]
    have:((k:Int)==j)=false:=beq_eq_false_iff_ne.2 e
    cases hf:l.find? (fun x=>x.2.1==j) with
    |none=>simp[this]
    |some x=>simp
  ·rw[List.map_append,List.nodup_append]
   refine⟨h.nk,by simp,fun a ha b hb e=>?_⟩
   simp at hb
   subst hb
   exact hm (e▸ha)
theorem Qfn(henc:∀b p,(enc b).ids p)(p:Abs.Id->Prop)(ck:Nat)(l:List (Nat×Int×β)):AObj.ids p (.map ck (encI enc l)):=by
 intro x hx
 simp only[encI,List.mem_map]at hx
 obtain⟨y,_,rfl⟩:=hx
 exact henc _ _
theorem AOps.putI{E:Env}{ops:Array Oper}{rest:List Oper}{K:Cont}{o:Oper}{fr:Fr}{σ:St}{t kt et:TypeId}{x i y:Operand}{m:Abs.Id}{ck:Nat}{l:List (Nat×Int×β)}{f:Int->Option β}{k:Int}{v:β}(hgd:o.guard=none)(hd:o.dst=none)(ho:o.op=.mapUpdate t x i y)(hm:E.P.underlying t=some (.map kt et))(hk:E.P.underlying kt=some (.int .i64))
  (hx:aEval E.Γ fr x=some (.one (.mp m))) (hg:σ.get m=some (.map ck (encI enc l))) (hu:aEval E.Γ fr i=some (.one (int k))) (hy:aEval E.Γ fr y=some (enc v)) (hf:IMOk f ck l)
  (h:∀ck' l',IMOk (setF f k v) ck' l'->AOps E ops rest K fr (σ.set m (.map ck' (encI enc l')))):AOps E ops (o::rest) K fr σ:=by
 obtain⟨ck',l',h1,h2⟩:=hf.put enc k v
 have hs:=AStep.mapUpdate (σ:=σ) ho hm hk hx hg hu hy rfl (keysI enc l)
 rw[h1]at hs
 have hrest:=h ck' l' h2
 exact AOps.step hgd (by rw[hd];rfl) hs (by rw[hd];exact hrest)
theorem AStep.lookI{E:Env}{o:Oper}{fr:Fr}{σ:St}{t kt et:TypeId}{x i:Operand}{m:Abs.Id}{ck:Nat}{l:List (Nat×Int×β)}{f:Int->Option β}{k:Int}{zv:Value}{z v:FV}{cm:Bool}(ho:o.op=.lookup t x i cm)(hm:E.P.underlying t=some (.map kt et))(hk:E.P.underlying kt=some (.int .i64))
  (hx:aEval E.Γ fr x=some (.one (.mp m))) (hg:σ.get m=some (.map ck (encI enc l))) (hu:aEval E.Γ fr i=some (.one (int k))) (hzv:(E.P.info? et).map (·.zero)=some (some zv)) (hz:∀w C,RF w C z zv) (hf:IMOk f ck l) (hv:(match f k with|some b=>enc b|none=>z)=v):
  AStep E o fr σ (if cm=true then .tup [v,.one (.lit (.bool (f k).isSome))]else v) σ:=by
 have h:=AStep.lookupZ (z:=z) (v:=v) ho hm hk hx hg hu rfl (keysI enc l) hzv hz (by
  rw[Qf7 enc hf,←hv]
  cases f k <;> rfl)
 rw[Qf7 enc hf]at h
 have e:((f k).map enc).isSome=(f k).isSome:=by cases f k <;> rfl
 rw[e]at h
 exact h
end
def eU:Unit->FV:=fun _=>.agg []
def eN:Int->FV:=fun n=>.one (int n)
theorem eU_ids(b:Unit)(p:Abs.Id->Prop):(eU b).ids p:=by simp[eU]
theorem eN_ids(b:Int)(p:Abs.Id->Prop):(eN b).ids p:=by simp[eN]
@[simp] theorem Qfm (p:Abs.Id->Prop) (ck:Nat) (l:List (Nat×Int×Unit)):AObj.ids p (.map ck (encI eU l)):=Qfn eU eU_ids p ck l
@[simp] theorem Q5s (p:Abs.Id->Prop) (ck:Nat) (l:List (Nat×Int×Int)):AObj.ids p (.map ck (encI eN l)):=Qfn eN eN_ids p ck l
def hasE {β:Type}(l:List (Nat×Int×β))(a:Nat)(k:Value)(v:β):Prop:=∃x∈l,x.1=a/\.int .i64 x.2.1=k/\x.2.2=v
@[simp] theorem Qf6 (a:Nat) (k:Value) (b:FV) (l:List (Nat×Int×Unit)):(a,k,b)∈encI eU l↔b=.agg []/\hasE l a k ():=by
 simp only[encI,eU,List.mem_map,Prod.mk.injEq]
 exact⟨fun ⟨x,h1,h2,h3,h4⟩=>⟨h4.symm,⟨x,h1,h2,h3,rfl⟩⟩,fun ⟨h4,⟨x,h1,h2,h3,_⟩⟩=>⟨x,h1,h2,h3,h4.symm⟩⟩
@[simp] theorem mem_encN (a:Nat) (k:Value) (b:FV) (l:List (Nat×Int×Int)):(a,k,b)∈encI eN l↔∃v,hasE l a k v/\.one (int v)=b:=by
 simp only[encI,eN,List.mem_map,Prod.mk.injEq]
 exact⟨fun ⟨x,h1,h2,h3,h4⟩=>⟨_,⟨x,h1,h2,h3,rfl⟩,h4⟩,fun ⟨v,⟨x,h1,h2,h3,h5⟩,h4⟩=>⟨x,h1,h2,h3,by rw[h5];exact h4⟩⟩
@[simp] theorem Qau (ρ:Nat->Nat) (ck:Nat) (l:List (Nat×Int×Unit)):AObj.ren ρ (.map ck (encI eU l))=.map ck (encI eU l):=AObj.ren_pure _ _ (Qfm _ ck l)
@[simp] theorem ren_mapN (ρ:Nat->Nat) (ck:Nat) (l:List (Nat×Int×Int)):AObj.ren ρ (.map ck (encI eN l))=.map ck (encI eN l):=AObj.ren_pure _ _ (Q5s _ ck l)
theorem zeroU(w:World)(C:Ctx):RF w C (.agg []) (.agg #[]):=⟨[],rfl,rfl⟩
theorem zeroN(w:World)(C:Ctx):RF w C (.one (int 0)) (.int .i64 0):=by simp[RF,R,Value.oneCell']
end Go.Proofs.YthboaankaaeemaaDoor
