/- The base of this proof, part 4. No condition. -/
import Derived.Test.YtlmokgooijbcdaaGreatDoorD3
import Derived.Shelf.Sort.Plain
import Derived.Shelf.Slices.In.SortNone
set_option maxRecDepth 10000
set_option maxHeartbeats 4000000
set_option linter.unusedVariables false
set_option linter.unusedSimpArgs false
theorem Z2g:type_of% @Go.Abs.AObj.sub_f:=@Go.Abs.AObj.sub_f
theorem Z2h:type_of% @Go.Abs.AObj.sub_o:=@Go.Abs.AObj.sub_o
theorem Z2i:type_of% @Go.Abs.AOps.appOwn:=@Go.Abs.AOps.appOwn
theorem Z2j:type_of% @Go.Abs.AOps.callK:=@Go.Abs.AOps.callK
theorem Z2k:type_of% @Go.Abs.AOps.cedes:=@Go.Abs.AOps.cedes
theorem Z2m:type_of% @Go.Abs.AOps.storeOwn:=@Go.Abs.AOps.storeOwn
theorem Z34:type_of% @Bool.or_eq_true:=@Bool.or_eq_true
theorem Z38:type_of% @Int.toNat_natCast:=@Int.toNat_natCast
theorem Z3u:type_of% @List.flatMap_append:=@List.flatMap_append
theorem Z3v:type_of% @List.flatMap_cons:=@List.flatMap_cons
theorem Z3y:type_of% @List.foldl_append:=@List.foldl_append
theorem Z42:type_of% @List.getD_eq_getElem?_getD:=@List.getD_eq_getElem?_getD
theorem Z4b:type_of% @List.getElem?_replicate:=@List.getElem?_replicate
theorem Z4f:type_of% @List.getElem_mem:=@List.getElem_mem
theorem Z4r:type_of% @List.map_append:=@List.map_append
theorem Z58:type_of% @List.mem_flatMap:=@List.mem_flatMap
theorem Z5b:type_of% @List.mem_map_of_mem:=@List.mem_map_of_mem
theorem Z5e:type_of% @List.mem_or_eq_of_mem_set:=@List.mem_or_eq_of_mem_set
theorem Z5k:type_of% @List.nodup_append:=@List.nodup_append
theorem Z5t:type_of% @List.take_add_one:=@List.take_add_one
theorem Z5u:type_of% @List.take_append_drop:=@List.take_append_drop
theorem Z6h:type_of% @Nat.mul_one:=@Nat.mul_one
theorem Z6i:type_of% @Nat.sub_self:=@Nat.sub_self
theorem Z7g:type_of% @Go.Abs.Wk.box:=@Go.Abs.Wk.box
open Bool renaming eq_iff_iff->Z2x
open List renaming count_append->Z3h,count_cons->Z3i,count_eq_zero->Z3j,find?_cons->Z3s,find?_eq_none->Z3t,foldl_cons->Z3z,getElem?_set_ne->Z4c,length_eq_zero_iff->Z4j,map_eq_nil_iff->Z4u,map_id->Z4v,map_map->Z4w,map_take->Z4y,pairwise_cons->Z5n,reverse_cons->Z5q
open Option renaming bind_some->Z6s,map_none->Z6w
open Go Go.Abs Go.CoreX
variable {α:Type}{i j g off ck kt ko:Nat}{e:List Ex}{x:Operand}{v n k m:Int}{o:Oper}{b kx ky params pre ks S xs ys:List Int}{a al:List Alt}{flat:Bool}{y:Nat×Int×Unit}{E:Env}{ops:Array Oper}{K:Cont}{fr frb fr':Fr}{σ:St}{ti tj:TI}{cs caps:List AC}{c:AC}{s:Option (List Int×List Int)}{es:List (List AC)}{vs:List FV}{rest hd tl:List Oper}{p:α->Bool}{q:Prop}{ou:Q03}{et:TypeId}{ts:List Tr}{β:Int->Int}
namespace Go.CoreX
structure Lab where
 op:Int
 n:Int
 binds:List Int
 ops:List Int
 alts:List Alt
 deriving DecidableEq
mutual
def sumT (g:Lab->Int):Tr->Int
 |.mk o n b k a=>g ⟨o,n,b,k.map Tr.op,a⟩+Qm4 g k
def Qm4 (g:Lab->Int):List Tr->Int
 |[]=>0
 |t::ts=>sumT g t+Qm4 g ts
end
def mx (m d:Int):Int:=if d > m then d else m
mutual
def Q3x:Tr->Int
 |.mk _ _ _ k _=>(Qcy k).foldl mx 0+1
def Qcy:List Tr->List Int
 |[]=>[]
 |t::ts=>Q3x t::Qcy ts
end
theorem Qad:∀l:List Tr,Qcy l=l.map Q3x
 |[]=>rfl
 |t::ts=>by simp[Qcy,Qad ts]
theorem Qex(g:Lab->Int):∀l:List Tr,Qm4 g l=(l.map (sumT g)).sum
 |[]=>rfl
 |t::ts=>by simp[Qm4,Qex g ts]
theorem Q3f(e:List Ex)(x:Ex):Q0q (e++[x])=Q0q e++[Q4i (Q0q e) x]:=by simp[Q0q,Qli]
theorem Q8m{P:List α->Prop}(h0:P [])(h1:∀l x,P l->P (l++[x]))(l:List α):P l:=by
 have:∀l:List α,P l.reverse:=by
  intro l
  induction l with
  |nil=>exact h0
  |cons a l ih=>rw[Z5q];exact h1 _ _ ih
 simpa using this l.reverse
theorem Q2g(e:List Ex):(Q0q e).length=e.length:=by refine Q8m (P:=fun e=>(Q0q e).length=e.length) rfl (fun l x ih=>?_) e;rw[Q3f];simp[ih]
theorem Qq9(e l:List Ex):∃r,Q0q (e++l)=Q0q e++r:=by refine Q8m (P:=fun l=>∃r,Q0q (e++l)=Q0q e++r) ⟨[],by simp⟩ (fun l x ih=>?_) l;obtain⟨r,h⟩:=ih;exact⟨r++[Q4i (Q0q (e++l)) x],by rw[←Z3e,Q3f,h];simp⟩
theorem Qbk{l r:List α}{d:α}(h:i < l.length):(l++r).getD i d=l.getD i d:=by simp[List.getD,Z43 h]
theorem Q6u{l:List Ex}(h:i < e.length):(Q0q (e++l)).getD i default=(Q0q e).getD i default:=by obtain⟨r,hr⟩:=Qq9 e l;rw[hr,Qbk (by rw[Q2g];exact h)]
theorem Qbj(e l:List Ex)(x:Ex):(Q0q (e++x::l)).getD e.length default=Q4i (Q0q e) x:=by rw[show e++x::l=(e++[x])++l by simp,Q6u zsy,Q3f];simp[List.getD,Q2g]
theorem Qq8(e:List Ex)(x:Ex):grow (e++[x])=Q4i (Q0q e) x:=by unfold grow;have:=Qbj e [] x;simpa using this
def cnt:List Ex->Nat->Nat
 |[],_=>0
 |x::e,i=>x.kids.count (i:Int)+cnt e i
theorem Qjk(e l:List Ex)(i:Nat):cnt (e++l) i=cnt e i+cnt l i:=by
 induction e with
 |nil=>simp[cnt]
 |cons x e ih=>simp[cnt,ih,Z60]
def Q1d (e:List Ex):Prop:=∀(j:Nat)(x:Ex),e[j]?=some x->∀k∈x.kids,0<=k/\k < (j:Int)
theorem Q4z{x:Ex}:Q1d (e++[x])↔Q1d e/\∀k∈x.kids,0<=k/\k < e.length:=by
 constructor
 ·intro h;refine⟨fun j y hj=>h j y ?_,?_⟩
  ·rw[Z43 (Z49.1 hj).1];exact hj
  ·exact h e.length x zsy
 ·intro ⟨h1,h2⟩ j y hj;by_cases hl:j < e.length
  ·rw[Z43 hl]at hj;exact h1 j y hj
  ·rw[Z44 zoy]at hj;have:j=e.length:=by have:=(Z49.1 hj).1;simp at this;omega
   subst this;simp at hj;subst hj;exact h2
theorem Qmu{l:List Ex}(h:Q1d (e++l)):Q1d e:=fun j y hj=>h j y (by rw[Z43 (Z49.1 hj).1];exact hj)
structure Run (pre:List Ex)(N:Nat)(d p:List Int):Prop where
 dl:d.length=N
 pl:p.length=N
 pv:∀i,i < N->p.getD i 0=cnt pre i
 dv:∀i,i < pre.length->d.getD i 0=Q3x ((Q0q pre).getD i default)
 d0:∀i,pre.length<=i->d.getD i 0=0
theorem Q5c(i:Nat):∀ks:List Int,ks.foldl (Q2c i) none=none
 |[]=>rfl
 |k::ks=>by rw[Z3z];exact Q5c i ks
theorem Q62{l:List Int}(h:i < l.length):(l.set i v).getD i 0=v:=by simp[List.getD,h]
theorem getD_set_ne{l:List Int}(h:i≠j):(l.set i v).getD j 0=l.getD j 0:=by simp[List.getD,Z4c h]
theorem Qry{l:List Int}(h:i < l.length):l.set i (l.getD i 0)=l:=by
 apply Z3p;intro j;by_cases hj:i=j
 ·subst hj;simp[h,List.getD,Z47 h]
 ·rw[Z4c hj]
theorem Ql8{i N:Nat}:∀(ks:List Int)(d p:List Int),d.length=N->p.length=N->i < N->(∀k∈ks,0<=k/\k < i)->
  ∃p',ks.foldl (Q2c i) (some (d,p))=some (d.set i (ks.foldl (fun m k=>mx m (d.getD k.toNat 0)) (d.getD i 0)),p')/\p'.length=N/\∀j,j < N->p'.getD j 0=p.getD j 0+ks.count (j:Int)
 |[],d,p,hd,hp,hi,_=>⟨p,by rw[List.foldl_nil,List.foldl_nil,Qry (show i < d.length by omega)],hp,by simp⟩
 |k::ks,d,p,hd,hp,hi,hk=>by
  obtain⟨k0,k1⟩:=hk k zsy;have hks:∀k∈ks,0<=k/\k < i:=fun y hy=>hk y (by simp[hy]);obtain⟨p',h1,h2,h3⟩:=Ql8 ks (d.set i (mx (d.getD i 0) (d.getD k.toNat 0))) (p.set k.toNat (p.getD k.toNat 0+1)) (by simpa using hd) (by simpa using hp) hi hks;refine⟨p',?_,h2,fun j hj=>?_⟩
  ·rw[Z3z];have e1:Q2c i (some (d,p)) k=some (d.set i (mx (d.getD i 0) (d.getD k.toNat 0)),p.set k.toNat (p.getD k.toNat 0+1)):=by simp only[Q2c,Z6s,mx];rw[if_neg zoy]
   rw[e1,h1,List.set_set,Q62 zoy,Z3z];congr 2;have:∀(l:List Int) (m:Int),(∀k∈l,0<=k/\k < i)->l.foldl (fun m k'=>mx m ((d.set i (mx (d.getD i 0) (d.getD k.toNat 0))).getD k'.toNat 0)) m=l.foldl (fun m k'=>mx m (d.getD k'.toNat 0)) m:=by
    intro l
    induction l with
    |nil=>intro m _;rfl
    |cons y l ih=>
     intro m hl;have hy:=hl y zsy;simp only[Z3z];rw[getD_set_ne zoy,ih _ (fun z hz=>hl z (by simp[hz]))]
   rw[this ks _ hks]
  ·rw[h3 j hj,Z3i];by_cases hkj:k.toNat=j
   ·subst hkj;rw[Q62 zoy];have:(k==((k.toNat:Nat):Int))=true:=by simp;omega
    rw[if_pos this];omega
   ·rw[getD_set_ne hkj];have:¬(k==(j:Int))=true:=by simp;omega
    rw[if_neg this];omega
theorem Ql9{i N:Nat}:∀(ks:List Int)(d p:List Int),¬(∀k∈ks,0<=k/\k < i)->ks.foldl (Q2c i) (some (d,p))=none
 |[],d,p,h=>absurd zsy h
 |k::ks,d,p,h=>by
  rw[Z3z];by_cases hk:0<=k/\k < i
  ·have e1:Q2c i (some (d,p)) k=some (d.set i (mx (d.getD i 0) (d.getD k.toNat 0)),p.set k.toNat (p.getD k.toNat 0+1)):=by simp only[Q2c,Z6s,mx];rw[if_neg zoy]
   rw[e1];refine Ql9 (N:=N) ks _ _ fun h2=>h ?_;intro y hy;rcases Z53.1 hy with rfl|hy
   ·exact hk
   ·exact h2 y hy
  ·have e1:Q2c i (some (d,p)) k=none:=by simp only[Q2c,Z6s];rw[if_pos zoy]
   rw[e1,Q5c]
theorem Qe8(f:Int->Int):∀(l:List Int)(m:Int),l.foldl (fun m k=>mx m (f k)) m=(l.map f).foldl mx m
 |[],_=>rfl
 |k::l,m=>by simp[Qe8 f l]
theorem Qg3(ts:List Tr)(x:Ex):Q3x (Q4i ts x)=(x.kids.map fun k=>Q3x (ts.getD k.toNat default)).foldl mx 0+1:=by simp only[Q4i,Q3x,Qad,Z4w];rfl
theorem Run.step{pre:List Ex}{N:Nat}{d p:List Int}{x:Ex}(h:Run pre N d p)(hN:pre.length < N)(hk:∀k∈x.kids,0<=k/\k < pre.length):∃d' p',Q2o (some (d,p)) (x,pre.length)=some (d',p')/\Run (pre++[x]) N d' p':=by
 obtain⟨p',h1,h2,h3⟩:=Ql8 x.kids d p h.dl h.pl hN hk;have hdl:=h.dl;refine⟨_,p',by simp only[Q2o,h1,Z6x];rfl,by simpa using hdl,h2,fun i hi=>?_,fun i hi=>?_,fun i hi=>?_⟩
 ·rw[h3 i hi,h.pv i hi,Qjk];simp[cnt]
 ·rw[List.set_set];simp only[Z4g,Z4o]at hi;by_cases e:pre.length=i
  ·subst e;rw[Q62 zoy,Q62 zoy,Qbj pre [] x,Qg3,h.d0 _ (Z6b _),Qe8];congr 2;refine Z4s fun k hk2=>?_;have:=hk k hk2;exact h.dv _ zoy
  ·rw[getD_set_ne e,Q6u zoy,h.dv i zoy]
 ·simp only[Z4g,Z4o]at hi;rw[List.set_set,getD_set_ne zoy,h.d0 i zoy]
theorem Q8u(l:List (Ex×Nat)):l.foldl Q2o none=none:=by
 induction l with
 |nil=>rfl
 |cons x l ih=>
  have:Q2o none x=none:=by simp[Q2o,Q5c]
  rw[Z3z,this,ih]
theorem Qkc{N:Nat}:∀(l pre:List Ex)(d p:List Int),Run pre N d p->Q1d pre->pre.length+l.length=N->
  (Q1d (pre++l)/\∃d' p',(l.zipIdx pre.length).foldl Q2o (some (d,p))=some (d',p')/\Run (pre++l) N d' p')∨(¬Q1d (pre++l)/\(l.zipIdx pre.length).foldl Q2o (some (d,p))=none)
 |[],pre,d,p,h,hk,_=>.inl ⟨by simpa using hk,d,p,rfl,by simpa using h⟩
 |x::l,pre,d,p,h,hk,hN=>by
  rw[List.zipIdx_cons,Z3z];simp only[Z4h]at hN;by_cases hx:∀k∈x.kids,0<=k/\k < pre.length
  ·obtain⟨d1,p1,e1,h1⟩:=h.step zoy hx;rw[e1];have:=Qkc l (pre++[x]) d1 p1 h1 (Q4z.2 ⟨hk,hx⟩) zuy;simpa[Z3e]using this
  ·right;have e1:Q2o (some (d,p)) (x,pre.length)=none:=by simp only[Q2o,Ql9 (N:=N) x.kids d p hx,Z6w]
   rw[e1,Q8u];refine⟨fun h2=>hx ?_,rfl⟩;exact h2 pre.length x zsy
theorem Qgh(e:List Ex):(Q1d e/\∃d p,Q6g e=some (d,p)/\Run e e.length d p)∨(¬Q1d e/\Q6g e=none):=by
 have h0:Run [] e.length (List.replicate e.length 0) (List.replicate e.length 0):=by
  have z:∀i,(List.replicate e.length (0:Int)).getD i 0=0:=fun i=>by simp only[List.getD];rw[Z4b];split <;> rfl
  exact⟨by simp,by simp,fun i _=>by rw[z];rfl,fun i hi=>by simp at hi,fun i _=>z i⟩
 have:=Qkc e [] _ _ h0 (fun j x hj=>by simp at hj) zsy;simpa[Q6g]using this
structure IsTree (e:List Ex):Prop where
 ne:e≠[]
 k:Q1d e
 c:∀i,i < e.length->(cnt e i=1↔i+1 < e.length)
theorem Q39(e:List Ex):Q2p e=0↔e.length<=4096/\IsTree e/\Q3x (grow e)<=400:=by
 unfold Q2p;by_cases h1:4096 < e.length
 ·rw[if_pos h1];exact⟨fun h=>absurd h zdy,fun h=>by omega⟩
 rw[if_neg h1];by_cases h2:e.length=0
 ·rw[if_pos h2];exact⟨fun h=>absurd h zdy,fun h=>absurd (Z4j.1 h2) h.2.1.ne⟩
 rw[if_neg h2];rcases Qgh e with ⟨hk,d,p,h3,hr⟩|⟨hk,h3⟩
 ·rw[h3];have hd:d.getD (e.length - 1) 0=Q3x (grow e):=hr.dv _ zoy;have hodd:(List.range e.length).any (Q35 e.length p)=true↔¬∀i,i < e.length->(cnt e i=1↔i+1 < e.length):=by
   rw[Z3d];constructor
   ·rintro⟨i,hi,hb⟩ h;have hi':i < e.length:=by simpa using hi
    have:=h i hi';have hc:=hr.pv i hi';simp only[Q35,Z31,beq_eq_false_iff_ne,ne_eq]at hb;apply hb;rw[Z2x,beq_iff_eq,decide_eq_true_iff,hc];omega
   ·intro h;simp only[Classical.not_forall]at h;obtain⟨i,hi,hne⟩:=h;refine⟨i,by simpa using hi,?_⟩;have hc:=hr.pv i hi;simp only[Q35,Z31,beq_eq_false_iff_ne,ne_eq];intro hb;rw[Z2x,beq_iff_eq,decide_eq_true_iff,hc]at hb;apply hne;omega
  simp only;by_cases h4:(List.range e.length).any (Q35 e.length p)=true
  ·rw[if_pos h4];exact⟨fun h=>absurd h zdy,fun h=>absurd h.2.1.c (hodd.1 h4)⟩
  ·rw[if_neg h4,hd];have hc:∀i,i < e.length->(cnt e i=1↔i+1 < e.length):=by apply Classical.byContradiction;intro hn;exact h4 (hodd.2 hn)
   by_cases h5:400 < Q3x (grow e)
   ·rw[if_pos h5];exact⟨fun h=>absurd h zdy,fun h=>by omega⟩
   ·rw[if_neg h5];exact⟨fun _=>⟨by omega,⟨fun h=>h2 (by simp[h]),hk,hc⟩,by omega⟩,fun _=>rfl⟩
 ·rw[h3];simp only;exact⟨fun h=>absurd h zdy,fun h=>absurd h.2.1.k hk⟩
def wsum (c:Nat->Int):Nat->List Int->Int
 |_,[]=>0
 |j,v::vs=>c j * v+wsum c (j+1) vs
theorem Qet(c:Nat->Int):∀(vs us:List Int)(j:Nat),wsum c j (vs++us)=wsum c j vs+wsum c (j+vs.length) us
 |[],us,j=>by simp[wsum]
 |v::vs,us,j=>by simp only[Z3g,wsum,Qet c vs us,Z4h];rw[show j+1+vs.length=j+(vs.length+1) by omega];omega
theorem Q9j{c c':Nat->Int}:∀(vs:List Int)(j:Nat),(∀i,j<=i->i < j+vs.length->c i=c' i)->wsum c j vs=wsum c' j vs
 |[],_,_=>rfl
 |v::vs,j,h=>by simp only[wsum];rw[h j zoy zsy,Q9j vs (j+1) (fun i h1 h2=>h i zoy zuy)]
theorem Qjy(c c':Nat->Int):∀(vs:List Int)(j:Nat),wsum (fun i=>c i - c' i) j vs=wsum c j vs - wsum c' j vs
 |[],_=>by simp[wsum]
 |v::vs,j=>by simp only[wsum,Qjy c c' vs,Int.sub_mul];omega
theorem Qk0(c c':Nat->Int):∀(vs:List Int)(j:Nat),wsum (fun i=>c i+c' i) j vs=wsum c j vs+wsum c' j vs
 |[],_=>by simp[wsum]
 |v::vs,j=>by simp only[wsum,Qk0 c c' vs,Int.add_mul];omega
theorem Q8f{c:Nat->Int}:∀(vs:List Int)(j:Nat),(∀i,j<=i->i < j+vs.length->c i=0)->wsum c j vs=0
 |[],_,_=>rfl
 |v::vs,j,h=>by simp only[wsum];rw[h j zoy zsy,Q8f vs (j+1) (fun i h1 h2=>h i zoy zuy)];omega
theorem Qjz(k:Int):∀(vs:List Int)(j:Nat),(j:Int)<=k->k < j+vs.length->wsum (fun i=>if k=(i:Int)then 1 else 0) j vs=vs.getD (k.toNat - j) 0
 |[],j,h1,h2=>by simp at h2;omega
 |v::vs,j,h1,h2=>by
  simp only[wsum];by_cases e:k=j
  ·subst e;rw[Q8f vs (j+1) (fun i h3 h4=>if_neg zoy)];simp[List.getD]
  ·rw[if_neg e,Qjz k vs (j+1) zoy (by simp at h2;omega)];rw[show k.toNat - j=(k.toNat - (j+1))+1 by omega];simp[List.getD]
theorem Qdk(vs:List Int):∀ks:List Int,(∀k∈ks,0<=k/\k < vs.length)->wsum (fun i=>((ks.count (i:Int):Nat):Int)) 0 vs=(ks.map fun k=>vs.getD k.toNat 0).sum
 |[],_=>by simp;exact Q8f vs 0 (fun _ _ _=>by simp)
 |k::ks,h=>by
  have hk:=h k zsy;have e:wsum (fun i=>(((k::ks).count (i:Int):Nat):Int)) 0 vs=wsum (fun i=>(if k=(i:Int)then 1 else 0)+((ks.count (i:Int):Nat):Int)) 0 vs:=by
   refine Q9j vs 0 fun i _ _=>?_;rw[Z3i];by_cases e:k=(i:Int)
   ·simp[e];omega
   ·simp[e]
  rw[e,Qk0,Qjz k vs 0 zoy zoy,Qdk vs ks (fun y hy=>h y (by simp[hy]))];simp
def labE (e:List Ex)(x:Ex):Lab:=⟨x.op,x.n,x.binds,x.kids.map (fun k=>((Q0q e).getD k.toNat default).op),x.alts⟩
def labs (e:List Ex):List Lab:=e.map (labE e)
theorem Qpk{x:Ex}(h:Q1d (e++[x])):labs (e++[x])=labs e++[labE e x]:=by
 obtain⟨h1,h2⟩:=Q4z.1 h;have same:∀y:Ex,(∀k∈y.kids,0<=k/\k < e.length)->labE (e++[x]) y=labE e y:=by intro y hy;simp only[labE,Lab.mk.injEq,true_and,and_true];refine Z4s fun k hk=>?_;have:=hy k hk;rw[Q6u zoy]
 simp only[labs,Z4r,Z4t,Z4x];rw[same x h2];congr 1;refine Z4s fun y hy=>same y fun k hk=>?_;obtain⟨j,hj⟩:=Z59.1 hy;have:=h1 j y hj k hk;have hl:=(Z49.1 hj).1;omega
theorem Qij(g:Lab->Int)(e:List Ex)(x:Ex):sumT g (Q4i (Q0q e) x)=g (labE e x)+(x.kids.map fun k=>sumT g ((Q0q e).getD k.toNat default)).sum:=by simp only[Q4i,sumT,Qex,labE,Z4w];rfl
theorem sum_pre(g:Lab->Int)(e:List Ex)(h:Q1d e):wsum (fun i=>1 - (cnt e i:Int)) 0 ((Q0q e).map (sumT g))=((labs e).map g).sum:=by
 revert h
 refine Q8m (P:=fun e=>Q1d e->wsum (fun i=>1 - (cnt e i:Int)) 0 ((Q0q e).map (sumT g))=((labs e).map g).sum) (fun _=>rfl) (fun e x ih h=>?_) e;obtain⟨h1,h2⟩:=Q4z.1 h;have ih:=ih h1;have hlen:((Q0q e).map (sumT g)).length=e.length:=by simp[Q2g]
 have hz:cnt (e++[x]) e.length=0:=by
  have:∀(l:List Ex) (n:Nat),(∀y∈l,∀k∈y.kids,k < (n:Int))->cnt l n=0:=by
   intro l
   induction l with
   |nil=>intro n _;rfl
   |cons y l ih2=>
    intro n hl;simp only[cnt];rw[ih2 n (fun z hz=>hl z (by simp[hz])),Z64,Z3j];intro hm;have:=hl y zsy _ hm;omega
  refine this _ _ fun y hy k hk=>?_;obtain⟨j,hj⟩:=Z59.1 hy;have:=h j y hj k hk;have hl:=(Z49.1 hj).1;simp at hl;omega
 rw[Q3f,Z4r,Qet,hlen,Qpk h,Z4r,List.sum_append,←ih];simp only[Z4t,Z4x,wsum,Z6l,hz,Z5s,List.sum_nil,Qij];have e1:wsum (fun i=>1 - (cnt (e++[x]) i:Int)) 0 ((Q0q e).map (sumT g))=wsum (fun i=>(1 - (cnt e i:Int)) - ((x.kids.count (i:Int):Nat):Int)) 0 ((Q0q e).map (sumT g)):=by refine Q9j _ 0 fun i _ _=>?_;rw[Qjk];simp[cnt];omega
 rw[e1,Qjy,Qdk _ _ (fun k hk=>by rw[hlen];exact h2 k hk)];have e2:(x.kids.map fun k=>((Q0q e).map (sumT g)).getD k.toNat 0)=x.kids.map fun k=>sumT g ((Q0q e).getD k.toNat default):=by
  refine Z4s fun k hk=>?_;have:=h2 k hk;have hl:k.toNat < (Q0q e).length:=by rw[Q2g];omega
  simp[List.getD,Z47 hl]
 rw[e2];omega
theorem Qtn(h:Q1d e){n:Nat}(hn:e.length<=n+1):cnt e n=0:=by
 have:∀(l:List Ex),(∀y∈l,∀k∈y.kids,k < (n:Int))->cnt l n=0:=by
  intro l
  induction l with
  |nil=>intro _;rfl
  |cons y l ih2=>
   intro hl;simp only[cnt];rw[ih2 (fun z hz=>hl z (by simp[hz])),Z64,Z3j];intro hm;have:=hl y zsy _ hm;omega
 refine this _ fun y hy k hk=>?_;obtain⟨j,hj⟩:=Z59.1 hy;have:=h j y hj k hk;have hl:=(Z49.1 hj).1;omega
theorem Qb8(g:Lab->Int)(h:IsTree e):((labs e).map g).sum=sumT g (grow e):=by
 rw[←sum_pre g e h.k];obtain⟨pre,x,rfl⟩:∃pre x,e=pre++[x]:=⟨e.dropLast,e.getLast h.ne,(List.dropLast_concat_getLast h.ne).symm⟩;rw[Q3f,Z4r,Qet];rw[Q8f _ 0 (fun i _ hi=>?_),Qq8]
 ·simp only[Z4t,Z4x,wsum,Z4k,Q2g,Z6l];rw[Qtn h.k zsy];omega
 ·have hi:i < pre.length:=by simpa[Q2g]using hi
  have:=(h.c i zuy).2 zuy;rw[this];rfl
structure OkT (out:List Ex)(t:Tr):Prop where
 lt:out.length < (Q0c out t).length
 k:Q1d (Q0c out t)
 g:∃r,Q0q (Q0c out t)=Q0q out++r++[t]
 c:∀i,cnt (Q0c out t) i=cnt out i+if out.length<=i/\i+1 < (Q0c out t).length then 1 else 0
structure OkTs (out:List Ex)(ts:List Tr):Prop where
 le:out.length<=(Q06 out ts).1.length
 k:Q1d (Q06 out ts).1
 g:∃r,Q0q (Q06 out ts).1=Q0q out++r
 ix:∀k∈(Q06 out ts).2,(out.length:Int)<=k/\k < (Q06 out ts).1.length
 m:(Q06 out ts).2.map (fun k=>(Q0q (Q06 out ts).1).getD k.toNat default)=ts
 c:∀i,cnt (Q06 out ts).1 i+(Q06 out ts).2.count (i:Int)=cnt out i+if out.length<=i/\i < (Q06 out ts).1.length then 1 else 0
mutual
theorem Qfj:∀(t:Tr)(out:List Ex),Q1d out->OkT out t
 |.mk o n b ks a,out,h=>by
  have H:=Qh7 ks out h;have e:Q0c out (.mk o n b ks a)=(Q06 out ks).1++[⟨o,n,b,(Q06 out ks).2,a⟩]:=by simp only[Q0c]
  refine⟨?_,?_,?_,fun i=>?_⟩
  ·rw[e];have:=H.le;simp;omega
  ·rw[e,Q4z];refine⟨H.k,fun k hk=>?_⟩;have:=H.ix k hk;exact⟨by omega,this.2⟩
  ·obtain⟨r,hr⟩:=H.g;refine⟨r,?_⟩;rw[e,Q3f];have:Q4i (Q0q (Q06 out ks).1) ⟨o,n,b,(Q06 out ks).2,a⟩=.mk o n b ks a:=by simp only[Q4i,Tr.mk.injEq,true_and,and_true];exact H.m
   rw[this,hr]
  ·rw[e,Qjk];have:=H.c i;simp only[cnt,Z64,Z4g,Z4o];rw[this];congr 1;by_cases h1:out.length<=i/\i < (Q06 out ks).1.length
   ·rw[if_pos h1,if_pos zoy]
   ·rw[if_neg h1,if_neg zoy]
theorem Qh7:∀(ts:List Tr)(out:List Ex),Q1d out->OkTs out ts
 |[],out,h=>⟨by simp[Q06],by simpa[Q06]using h,⟨[],by simp[Q06]⟩,by simp[Q06],by simp[Q06],fun i=>by
   have e1:(Q06 out []).1=out:=by simp only[Q06]
   have e2:(Q06 out []).2=[]:=by simp only[Q06]
   rw[e1,e2,if_neg zoy];rfl⟩
 |t::ts,out,h=>by
  have H1:=Qfj t out h;have H2:=Qh7 ts (Q0c out t) H1.k;have e1:(Q06 out (t::ts)).1=(Q06 (Q0c out t) ts).1:=by simp only[Q06]
  have e2:(Q06 out (t::ts)).2=(((Q0c out t).length:Int) - 1)::(Q06 (Q0c out t) ts).2:=by simp only[Q06]
  have l1:=H1.lt;have l2:=H2.le;obtain⟨r1,g1⟩:=H1.g;obtain⟨r2,g2⟩:=H2.g;refine⟨by rw[e1];omega,by rw[e1];exact H2.k,⟨r1++[t]++r2,?_⟩,?_,?_,fun i=>?_⟩
  ·rw[e1,g2,g1];simp
  ·intro k hk;rw[e2]at hk;rw[e1];rcases Z53.1 hk with rfl|hk
   ·omega
   ·have:=H2.ix k hk;omega
  ·rw[e1,e2,Z4t,H2.m];congr 1;have hl:(Q0q (Q0c out t)).length=(Q0c out t).length:=Q2g _;have hl2:(Q0q out++r1).length+1=(Q0c out t).length:=by rw[←hl,g1];simp;omega
   rw[g2,Qbk (by rw[hl];omega),g1];have:((((Q0c out t).length:Int) - 1)).toNat=(Q0q out++r1).length:=by omega
   rw[this];simp[List.getD]
  ·rw[e1,e2,Z3i];have c2:=H2.c i;have c1:=H1.c i;have hh:(((((Q0c out t).length:Int) - 1)==(i:Int))=true)↔i+1=(Q0c out t).length:=by rw[beq_iff_eq];omega
   by_cases h1:i+1=(Q0c out t).length
   ·rw[if_pos (hh.2 h1)];rw[if_neg zoy]at c2;rw[if_neg zoy]at c1;rw[if_pos zoy];omega
   ·rw[if_neg (fun h=>h1 (hh.1 h))];by_cases h2:out.length<=i/\i+1 < (Q0c out t).length
    ·rw[if_pos h2]at c1;rw[if_neg zoy]at c2;rw[if_pos zoy];omega
    ·rw[if_neg h2]at c1;by_cases h3:(Q0c out t).length<=i/\i < (Q06 (Q0c out t) ts).1.length
     ·rw[if_pos h3]at c2;rw[if_pos zoy];omega
     ·rw[if_neg h3]at c2;rw[if_neg zoy];omega
end
theorem Qe2:Q1d []:=fun j x hj=>by simp at hj
theorem Q3s(t:Tr):grow (Q0c [] t)=t:=by
 have H:=Qfj t [] Qe2;obtain⟨r,hr⟩:=H.g;have hl:(Q0q (Q0c [] t)).length=(Q0c [] t).length:=Q2g _;unfold grow;rw[hr]at hl ⊢;have:(Q0c [] t).length - 1=(Q0q []++r).length:=by simp at hl ⊢;omega
 rw[this];simp[List.getD]
theorem Q51(t:Tr):IsTree (Q0c [] t):=by
 have H:=Qfj t [] Qe2;refine⟨fun h=>?_,H.k,fun i hi=>?_⟩
 ·have:=H.lt;rw[h]at this;simp at this
 ·rw[H.c i];simp only[cnt,Z4l,Z6m,true_and,Z6l];split <;> omega
theorem Qnv(ls:List Lab)(l0:Lab):(ls.map fun l=>if l=l0 then (1:Int)else 0).sum=ls.count l0:=by
 induction ls with
 |nil=>rfl
 |cons l ls ih=>
  simp only[Z4t,Z5s,ih,Z3i];by_cases e:l=l0
  ·simp[e];omega
  ·simp[e]
theorem Qhb{f:List Ex}(he:IsTree e)(hf:IsTree f)(h:grow e=grow f):(labs e).Perm (labs f):=by rw[List.perm_iff_count];intro l0;have h1:=Qb8 (fun l=>if l=l0 then (1:Int)else 0) he;have h2:=Qb8 (fun l=>if l=l0 then (1:Int)else 0) hf;rw[Qnv]at h1 h2;rw[h]at h1;omega
theorem Qbg(e:List Ex):(labs e).length=e.length:=by simp[labs]
theorem Qiu(e:List Ex):∀i,i < e.length->((Q0q e).getD i default).op=(e.getD i ⟨0,0,[],[],[]⟩).op:=by
 refine Q8m (P:=fun e=>∀i,i < e.length->((Q0q e).getD i default).op=(e.getD i ⟨0,0,[],[],[]⟩).op) (fun i hi=>by simp at hi) (fun e x ih i hi=>?_) e;by_cases h:i < e.length
 ·rw[Q6u h,ih i h,Qbk h]
 ·have:i=e.length:=by simp at hi;omega
  subst this;rw[Qbj e [] x];simp[Q4i,List.getD]
theorem Qo8{o:Int}(h:kx.length=ky.length):shape ⟨o,n,b,kx,a⟩=shape ⟨o,n,b,ky,a⟩:=by unfold shape wants Q9g Q6d;simp only[h]
theorem Qm8{o:Int}(h:kx.length=ky.length):ranges ⟨o,n,b,kx,a⟩=ranges ⟨o,n,b,ky,a⟩:=by unfold ranges fields;simp only[h]
theorem Qm5{x:Ex}(h:shape x=true)(h5:x.op=5):x.kids.length=x.binds.length+1:=by unfold shape wants at h;simp[h5]at h;omega
theorem Qh6{f:List Ex}{x y:Ex}(hx:∀k∈x.kids,0<=k/\k < (e.length:Int))(hy:∀k∈y.kids,0<=k/\k < (f.length:Int))(h:labE e x=labE f y):Q18 flat e x=Q18 flat f y:=by
 obtain⟨o,n,b,kx,a⟩:=x;obtain⟨o',n',b',ky,a'⟩:=y;simp only[labE,Lab.mk.injEq]at h;obtain⟨rfl,rfl,rfl,hk,rfl⟩:=h;have hl:kx.length=ky.length:=by have:=congrArg List.length hk;simpa using this
 unfold Q18 Q2k;rw[Qo8 hl,Qm8 hl];cases hs:shape ⟨o,n,b,ky,a⟩ with
 |false=>simp
 |true=>
  have hb:(List.range b.length).any (Q26 e ⟨o,n,b,kx,a⟩)=(List.range b.length).any (Q26 f ⟨o,n,b,ky,a⟩):=by
   rw[Z2x,Z3d,Z3d];have key:∀i,i < b.length->Q26 e ⟨o,n,b,kx,a⟩ i=Q26 f ⟨o,n,b,ky,a⟩ i:=by
    intro i hi;unfold Q26;by_cases h5:o=5
    ·have hr:=Qm5 hs h5;simp only at hr;obtain⟨k,h1⟩:∃k,kx[i]?=some k:=⟨kx[i]'(by omega),Z47 _⟩;obtain⟨m,h2⟩:∃k,ky[i]?=some k:=⟨ky[i]'(by omega),Z47 _⟩;have k1:=hx k (Z5c h1);have k2:=hy m (Z5c h2);have h3:=congrArg (fun l=>l[i]?) hk;simp only[Z4a,h1,h2,Z6x,Z6z]at h3;rw[Qiu e _ zoy,Qiu f _ zoy]at h3;have e1:kx.getD i 0=k:=by rw[Z42,h1];rfl
     have e2:ky.getD i 0=m:=by rw[Z42,h2];rfl
     simp only[e1,e2,h3]
    ·have:(o==5)=false:=by simpa using h5
     simp only[this,Bool.false_and]
   constructor
   ·rintro⟨i,hi,hb⟩;exact⟨i,hi,by rw[←key i (by simpa using hi)];exact hb⟩
   ·rintro⟨i,hi,hb⟩;exact⟨i,hi,by rw[key i (by simpa using hi)];exact hb⟩
  simp only[hb]
theorem Q3t{α:Type}(f:α->Int):∀l:List α,Q2d f l=0↔∀x∈l,f x=0
 |[]=>by simp[Q2d]
 |a::l=>by
  simp only[Q2d,Z53,forall_eq_or_imp];by_cases h:f a=0
  ·simp[h,Q3t f l]
  ·simp[h]
theorem Q3e:∀l:List Int,Q6t l=false↔l.Nodup
 |[]=>by simp[Q6t]
 |n::l=>by simp[Q6t,Z5l,Q3e l]
theorem Qfm(h:Q1d e){x:Ex}(hx:x∈e):∀k∈x.kids,0<=k/\k < (e.length:Int):=by intro k hk;obtain⟨j,hj⟩:=Z59.1 hx;have:=h j x hj k hk;have hl:=(Z49.1 hj).1;omega
theorem Q76(e:List Ex):Q0l e=(labs e).flatMap fun l=>Q0h l.op l.binds l.alts:=by unfold Q0l labs;rw[List.flatMap_map];rfl
theorem Qr2{f:List Ex}(hf:IsTree f)(h:grow e=grow f)(hb:body e params flat=0):body f params flat=0:=by
 unfold body at hb ⊢;by_cases h1:Q2p e=0
 ·rw[if_neg (by simpa using h1)]at hb;obtain⟨t1,t2,t3⟩:=(Q39 e).1 h1;have hp:=Qhb t2 hf h;have hl:e.length=f.length:=by rw[←Qbg e,←Qbg f];exact hp.length_eq
  rw[if_neg (by rw[Classical.not_not];exact (Q39 f).2 ⟨by omega,hf,by rw[←h];exact t3⟩)];by_cases h2:Q2d (Q18 flat e) e=0
  ·rw[if_neg (by simpa using h2)]at hb;have h2f:Q2d (Q18 flat f) f=0:=by rw[Q3t]at h2 ⊢;intro y hy;have hm:labE f y∈labs e:=hp.mem_iff.2 (Z5b hy);obtain⟨x,hx,hxy⟩:=Z5a.1 hm;rw[←Qh6 (Qfm t2.k hx) (Qfm hf.k hy) hxy];exact h2 x hx
   rw[if_neg (by simpa using h2f)];by_cases h3:Q6t (params++Q0l e)=true
   ·rw[if_pos h3]at hb;exact absurd hb zdy
   ·rw[if_neg h3]at hb;have hd:(params++Q0l e).Perm (params++Q0l f):=by rw[Q76,Q76];exact List.Perm.append_left _ (List.Perm.flatMap_right _ hp)
    have h3f:¬Q6t (params++Q0l f)=true:=by intro h4;have h5:=(Q3e _).1 (by simpa using h3);have h6:=(Q3e _).2 (hd.nodup_iff.1 h5);rw[h6]at h4;cases h4
    rw[if_neg h3f,←h];exact hb
  ·rw[if_pos h2]at hb;exact absurd hb h2
 ·rw[if_pos h1]at hb;exact absurd hb h1
theorem Q1j(hb:body e params flat=0):IsTree e:=by
 unfold body at hb;by_cases h1:Q2p e=0
 ·exact ((Q39 e).1 h1).2.1
 ·rw[if_pos h1]at hb;exact absurd hb h1
theorem Qae(h:check e=0):check (Q0c [] (grow e))=0:=Qr2 (Q51 _) (Q3s _).symm h
abbrev Nm:=Int->Option Int
def setN (m:Nm)(k v:Int):Nm:=fun j=>if k=j then some v else m j
def Q83 (m:Nm):List Int->List Int->Nm
 |x::xs,y::ys=>Q83 (setN m x y) xs ys
 |_,_=>m
def Q2z:List Alt->List Alt->Bool
 |a::l,b::r=>(a.tag==b.tag&&a.binds.length==b.binds.length)&&Q2z l r
 |_,_=>true
def Qk2 (o:Int)(nk nb na:Nat)(t:Tr):Bool:=!(o==t.op&&nk==t.kids.length&&nb==t.binds.length&&na==t.alts.length)
def Qbw (m:Nm)(n n':Int):Bool:=match m n with|some v=>v==n'|none=>n==n'
mutual
def Q6e:Tr->Tr->Nm->Bool×Nm
 |.mk o n b k a,t,m=>
  if Qk2 o k.length b.length a.length t=true then (false,m) else
  if o=0 then (Qbw m n t.n,m) else
  if (!(n==t.n))||(o==9&&!(b==t.binds))then (false,m) else
  if Q2z a t.alts=false then (false,m) else
  Q3i k t.kids (Q83 m (Q0h o b a) (Q0h t.op t.binds t.alts))
def Q3i:List Tr->List Tr->Nm->Bool×Nm
 |[],_,m=>(true,m)
 |a::l,r,m=>match r with
  |[]=>(true,m)
  |b::r=>if (Q6e a b m).1=true then Q3i l r (Q6e a b m).2 else (false,(Q6e a b m).2)
end
def idN (m:Nm):Prop:=∀n v,m n=some v->v=n
theorem Qlh:∀(l:List Int)(m:Nm),idN m->idN (Q83 m l l)
 |[],m,h=>h
 |x::l,m,h=>Qlh l _ fun n v hv=>by
  unfold setN at hv;by_cases e:x=n
  ·rw[if_pos e]at hv;simp at hv;omega
  ·rw[if_neg e]at hv;exact h n v hv
theorem Q9h:∀l:List Alt,Q2z l l=true
 |[]=>rfl
 |a::l=>by simp[Q2z,Q9h l]
mutual
theorem Qdn:∀(t:Tr)(m:Nm),idN m->(Q6e t t m).1=true/\idN (Q6e t t m).2
 |.mk o n b k a,m,h=>by
  unfold Q6e;rw[if_neg (by simp[Qk2])];by_cases e:o=0
  ·rw[if_pos e];refine⟨?_,h⟩;simp only[Qbw,Qxo];cases hm:m n with
   |none=>simp
   |some v=>simp[h n v hm]
  ·rw[if_neg e,if_neg zsy,if_neg (by simp[Q9h])];exact Qby k _ (Qlh _ m h)
theorem Qby:∀(l:List Tr)(m:Nm),idN m->(Q3i l l m).1=true/\idN (Q3i l l m).2
 |[],m,h=>⟨rfl,h⟩
 |t::l,m,h=>by obtain⟨h1,h2⟩:=Qdn t m h;unfold Q3i;simp only[h1,if_true];exact Qby l _ h2
end
def Qb9 (a b:Tr):Bool:=(Q6e a b fun _=>none).1
theorem Qf4(t:Tr):Qb9 t t=true:=(Qdn t _ fun n v h=>by cases h).1
def same (a b:List Ex):Bool:=(check a==0&&check b==0)&&Qb9 (grow a) (grow b)
def order (e:List Ex):List Ex×Int:=if check e≠0 then ([],check e)else (Q0c [] (grow e),0)
end Go.CoreX
namespace Go.Abs
theorem Qxs{l:List Oper}(d:Nat)(h:o.dst=some d)(k:AOps E ops (o::l) K fr σ):AOps E ops (o::l) K fr σ:=k
class StpC (g:Prop) (h:outParam Prop):Prop where
 go:h->g
theorem zst{g h:Prop} [i:StpC g h] (x:h):g:=i.go x
section
variable {E:Env}{Fin:Fr->St->Prop}{k:List AItem}{fr:Fr}{σ:St}{c x y:Code}{id:Nat}{J:Fr->St->Prop}{ops:Array Oper}{K:Cont}{l:List Oper}
instance:StpC (AOps E ops [] K fr σ) (K .normal fr σ):=⟨o1⟩
instance:StpC (Q00 E (.seq x y) (Q0a E Fin k) fr σ) (Q00 E x (Q0a E Fin (.code y::k)) fr σ):=⟨o2⟩
instance:StpC (Q00 E (.region id l.toArray false) K fr σ) (AOps E l.toArray l K fr σ):=⟨o3⟩
instance:StpC (Q0a E Fin (.code c::k) .normal fr σ) (Q00 E c (Q0a E Fin k) fr σ):=⟨o4⟩
instance:StpC (Q00 E .ret (Q0a E Fin k) fr σ) (Q0a E Fin k .ret fr σ):=⟨o5⟩
instance:StpC (Q0a E Fin [] .ret fr σ) (Fin fr σ):=⟨o6⟩
instance:StpC (Q0a E Fin [] .normal fr σ) (Fin fr σ):=⟨o7⟩
instance:StpC (Q00 E .skip (Q0a E Fin k) fr σ) (Q0a E Fin k .normal fr σ):=⟨o8⟩
instance:StpC (Q00 E (.block id c) (Q0a E Fin k) fr σ) (Q00 E c (Q0a E Fin (.blk id::k)) fr σ):=⟨o9⟩
instance:StpC (Q0a E Fin (.blk id::k) .normal fr σ) (Q0a E Fin k .normal fr σ):=⟨oa⟩
instance:StpC (Q0a E Fin (.code c::k) .ret fr σ) (Q0a E Fin k .ret fr σ):=⟨ob⟩
instance:StpC (Q0a E Fin (.blk id::k) .ret fr σ) (Q0a E Fin k .ret fr σ):=⟨oc⟩
instance:StpC (Q0a E Fin (.inv J::k) .ret fr σ) (Q0a E Fin k .ret fr σ):=⟨od⟩
instance {J:List PanicEntry->St->Prop}:StpC (Q0a E Fin (.pan J::k) .normal fr σ) (Q0a E Fin k .normal fr σ):=⟨fun h=>h⟩
instance {J:List PanicEntry->St->Prop}:StpC (Q0a E Fin (.pan J::k) .ret fr σ) (Q0a E Fin k .ret fr σ):=⟨fun h=>h⟩
instance {J:List PanicEntry->St->Prop}:StpC (Q0a E Fin (.pan J::k) (.exit id) fr σ) (Q0a E Fin k (.exit id) fr σ):=⟨fun h=>h⟩
instance:StpC (Q00 E (.exit id) (Q0a E Fin k) fr σ) (Q0a E Fin k (.exit id) fr σ):=⟨oe⟩
instance:StpC (Q0a E Fin (.code c::k) (.exit id) fr σ) (Q0a E Fin k (.exit id) fr σ):=⟨og⟩
instance:StpC (Q0a E Fin (.blk id::k) (.exit id) fr σ) (Q0a E Fin k .normal fr σ):=⟨oh⟩
instance:StpC (Q0a E Fin (.inv J::k) (.exit id) fr σ) (Q0a E Fin k (.exit id) fr σ):=⟨oi⟩
end
end Go.Abs
namespace Go.Proofs.YtlmokgooijbcdaaGreatDoor
open Go Go.Abs
section
variable {E:Env}{ops:Array Oper}{rest:List Oper}{o:Oper}{K:Cont}{fr fr':Fr}{σ σ':St}{d:Nat}{t yt:TypeId}{x y:Operand}{a b:Int}{p q:Bool}{tys:Array TypeId}
theorem zau(h:AOps E ops rest K fr' σ')(hT:Q0t E.P E.T:=by exact tabOk)(h1:aAuto E ops o fr σ=some (fr',σ'):=by exact rfl):AOps E ops (o::rest) K fr σ:=AOps.auto hT h1 h
theorem zad(h:AOps E ops rest K ((d,.one (.lit (.int .i64 (a+b))))::fr) σ)(hgd:o.guard=none:=by exact rfl)(Qza:o.dst=some d:=by exact rfl)(hd:Nat.ble (d+1) E.N=true:=by exact rfl)(ho:o.op=.binOp .add t x y yt:=by exact rfl)
  (hx:Q08 E.Γ fr x=some (.one (.lit (.int .i64 a))):=by exact rfl) (hy:Q08 E.Γ fr y=some (.one (.lit (.int .i64 b))):=by exact rfl) (h0:-9223372036854775808<=a+b:=by first|omega|(simp;omega)) (h1:a+b<=9223372036854775807:=by first|omega|(simp;omega)):AOps E ops (o::rest) K fr σ:=
 Qv1 hgd Qza hd (Qus ho hx hy (.inl ⟨rfl,rfl⟩) (Q3b h0 h1)) h
theorem zsu(h:AOps E ops rest K ((d,.one (.lit (.int .i64 (a - b))))::fr) σ)(hgd:o.guard=none:=by exact rfl)(Qza:o.dst=some d:=by exact rfl)(hd:Nat.ble (d+1) E.N=true:=by exact rfl)(ho:o.op=.binOp .sub t x y yt:=by exact rfl)
  (hx:Q08 E.Γ fr x=some (.one (.lit (.int .i64 a))):=by exact rfl) (hy:Q08 E.Γ fr y=some (.one (.lit (.int .i64 b))):=by exact rfl) (h0:-9223372036854775808<=a - b:=by first|omega|(simp;omega)) (h1:a - b<=9223372036854775807:=by first|omega|(simp;omega)):AOps E ops (o::rest) K fr σ:=
 Qv1 hgd Qza hd (Qus ho hx hy (.inr (.inl ⟨rfl,rfl⟩)) (Q3b h0 h1)) h
theorem zne(h:AOps E ops rest K ((d,.one (.lit (.bool (!(p==q)))))::fr) σ)(hgd:o.guard=none:=by exact rfl)(Qza:o.dst=some d:=by exact rfl)(hd:Nat.ble (d+1) E.N=true:=by exact rfl)(ho:o.op=.binOp .neq t x y yt:=by exact rfl)(ht:E.P.underlying t=some .bool:=by exact Tryz.underlying4)
  (hx:Q08 E.Γ fr x=some (.one (.lit (.bool p))):=by exact rfl) (hy:Q08 E.Γ fr y=some (.one (.lit (.bool q))):=by exact rfl):AOps E ops (o::rest) K fr σ:=Qv1 hgd Qza hd (Qwc ht ho hx hy) h
theorem zeq(h:AOps E ops rest K ((d,.one (.lit (.bool (p==q))))::fr) σ)(hgd:o.guard=none:=by exact rfl)(Qza:o.dst=some d:=by exact rfl)(hd:Nat.ble (d+1) E.N=true:=by exact rfl)(ho:o.op=.binOp .eql t x y yt:=by exact rfl)(ht:E.P.underlying t=some .bool:=by exact Tryz.underlying4)
  (hx:Q08 E.Γ fr x=some (.one (.lit (.bool p))):=by exact rfl) (hy:Q08 E.Γ fr y=some (.one (.lit (.bool q))):=by exact rfl):AOps E ops (o::rest) K fr σ:=Qv1 hgd Qza hd (Qwb ht ho hx hy) h
theorem zmx(h:AOps E ops rest K ((d,.one (.lit (.int .i64 (if b > a then b else a))))::fr) σ)(hgd:o.guard=none:=by exact rfl)(Qza:o.dst=some d:=by exact rfl)(hd:Nat.ble (d+1) E.N=true:=by exact rfl)(ho:o.op=.call { callee:=.builtin .max,args:=#[x,y],argTypes:=tys }:=by exact rfl)
  (hx:Q08 E.Γ fr x=some (.one (.lit (.int .i64 a))):=by exact rfl) (hy:Q08 E.Γ fr y=some (.one (.lit (.int .i64 b))):=by exact rfl):AOps E ops (o::rest) K fr σ:=Qv1 hgd Qza hd (Q01.max2 (t:=3) (ty:=3) ho hx hy) h
theorem zmn(h:AOps E ops rest K ((d,.one (.lit (.int .i64 (if b < a then b else a))))::fr) σ)(hgd:o.guard=none:=by exact rfl)(Qza:o.dst=some d:=by exact rfl)(hd:Nat.ble (d+1) E.N=true:=by exact rfl)(ho:o.op=.call { callee:=.builtin .min,args:=#[x,y],argTypes:=tys }:=by exact rfl)
  (hx:Q08 E.Γ fr x=some (.one (.lit (.int .i64 a))):=by exact rfl) (hy:Q08 E.Γ fr y=some (.one (.lit (.int .i64 b))):=by exact rfl):AOps E ops (o::rest) K fr σ:=Qv1 hgd Qza hd (Q01.min2 (t:=3) (ty:=3) ho hx hy) h
theorem zow{j:Abs.Id}(ho:o.op=.load t x)(hx:Q08 E.Γ fr x=some (.one (.ptr j off)))(hg:σ.get j=some (.cells cs))(h:AOps E ops rest K ((d,.one c)::fr) σ)(hgd:o.guard=none:=by exact rfl)(Qza:o.dst=some d:=by exact rfl)(hd:Nat.ble (d+1) E.N=true:=by exact rfl)(hT:Q0t E.P E.T:=by exact tabOk)
  (ht:Tab.get t E.T=some ti:=by exact rfl) (ha:ti.agg=false:=by exact rfl) (hs:Nat.beq ti.size 1=true:=by exact rfl) (hc:cs[off]?=some c:=by exact rfl):AOps E ops (o::rest) K fr σ:=Qv1 hgd Qza hd (Qw5 hT ho ht ha hs hx hg hc) h
theorem zix{k:IntKind}{s:Nat}{e:List AC}(h:AOps E ops rest K ((d,.one (.box e))::fr) σ)(hgd:o.guard=none:=by exact rfl)(Qza:o.dst=some d:=by exact rfl)(hd:Nat.ble (d+1) E.N=true:=by exact rfl)(ho:o.op=.indexAddr t x y:=by exact rfl)(hT:Q0t E.P E.T:=by exact tabOk)
  (ht:Tab.get t E.T=some ti:=by exact rfl) (hk:Nat.beq ti.kind 2=true:=by exact rfl) (hj:Tab.get ti.elem E.T=some tj:=by exact rfl) (hx:Q08 E.Γ fr x=some (.one (.sl s es)):=by exact rfl) (hs:Nat.beq tj.size s=true:=by exact rfl) (hy:Q08 E.Γ fr y=some (.one (.lit (.int k n))):=by exact rfl) (h0:0<=n:=by decide) (he:es[n.toNat]?=some e:=by exact rfl):AOps E ops (o::rest) K fr σ:=
 Qv1 hgd Qza hd (Q01.indexAddr hT ho ht hk hj hs hx (.inl rfl) hy h0 he) h
theorem zca{f:Operand}{args:Array Operand}{first:List AC}{ws:List FV}{r:FV}(hΓ:GI E.Γ)(hc:Q09 E.P E.Γ g ws r)(hou:OuOk σ.ou)(h:AOps E ops rest K ((d,r)::fr) σ)(hgd:o.guard=none:=by exact rfl)(Qza:o.dst=some d:=by exact rfl)(hd:Nat.ble (d+1) E.N=true:=by exact rfl)
  (ho:o.op=.call { callee:=.value f,args:=args,argTypes:=tys }:=by exact rfl) (hf:Q08 E.Γ fr f=some (.one (.fn (.func g) first caps)):=by exact rfl) (hargs:Q22 E.Γ fr args.toList=some vs:=by exact rfl) (has:first.map .one++vs++caps.map .one=ws:=by exact rfl) (Qz6:idsF isO ws:=by simp):AOps E ops (o::rest) K fr σ:=
 Qvd hΓ hc hgd Qza hd ho hf hargs has hou Qz6 h
end
section
variable {ρ:Nat->Nat}{fr r:Fr}{k n s:Nat}{x v:FV}{es:List (List AC)}{oc:Option Nat}{lo lr:List (Nat×AObj)}{o p:AObj}{k':Nat}
theorem zfc(hr:Q0k ρ fr r)(h:Fr.get k fr=some v:=by exact rfl)(he:v=x.ren ρ:=by exact rfl):Q0k ρ fr ((k,x)::r):=Q0k.cons h (.ofEq he) hr
theorem zfo(hr:Q0k ρ fr r)(h:Fr.get n fr=some (.one (oaC k' s es oc)):=by exact rfl)(hk:k'=ρ k:=by exact rfl):Q0k ρ fr ((n,.one (oaC k s es oc))::r):=Qwv h hk hr
theorem zfp(hr:Q0k ρ fr r)(h:Fr.get k fr=some v:=by exact rfl)(he:v=x:=by exact rfl)(hp:x.ids isO:=by simp):Q0k ρ fr ((k,x)::r):=Q0k.consP h (.ofEq he) hp hr
theorem zlc(hr:Q1b ρ n lo lr)(h:Q28 (ρ k) lo=some p:=by exact rfl)(hk:Nat.blt k n=true:=by exact rfl)(he:p=o.ren ρ:=by first|rfl|(refine (Z2f _ _ ?_).symm;simp;done)|exact (Qoi _ _ _ _ fun _=>Qj5 (by simp;done)).symm|(simp[AObj.ren,renL,AC.ren];done)|(simp[AObj.ren,renL,AC.ren];rfl))(hi:o.ids (inL n):=by first|(simp;done)|exact Qpw zsy):Q1b ρ n lo ((k,o)::lr):=Q1b.cons h he hk hi hr
theorem zld(he:p=o.ren ρ)(hr:Q1b ρ n lo lr)(h:Q28 (ρ k) lo=some p:=by exact rfl)(hk:Nat.blt k n=true:=by exact rfl)(hi:o.ids (inL n):=by first|(simp;done)|exact Qpw zsy):Q1b ρ n lo ((k,o)::lr):=Q1b.cons h he hk hi hr
end
section
variable {E:Env}{o:Oper}{fr:Fr}{σ σ':St}{ρ:Nat->Nat}{r:Fr}{n:Nat}{lo lr:List (Nat×AObj)}{ops:Array Oper}{v:FV}
theorem zFW(h:Q0k ρ fr r:=by (repeat' first|exact Q0k.nil|refine zfc ?_|refine zfo ?_|refine zfp ?_ (hp:=by first|assumption|(simp;done)))):Q0k ρ fr r:=h
theorem zFS(h:Q0k ρ fr r:=by (repeat' first|exact Q0k.nil|refine zfc ?_|refine zfo ?_|refine zfp ?_)):Q0k ρ fr r:=h
theorem zLO(h:Q1b ρ n lo lr:=by (repeat' first|exact Q1b.nil|refine zlc ?_|refine zld ?_ ?_|rfl)):Q1b ρ n lo lr:=h
theorem zI(h1:-9223372036854775808<=k:=by omega)(h2:k<=9223372036854775807:=by omega):Q60 .i64 k:=Q3b h1 h2
theorem zHP(h:Q01 E o fr σ v σ')(hg:o.guard=none:=by exact rfl):Q0b E ops o fr σ σ' v:=Q0b.plain hg h
theorem zS{x:FV}{d:Nat}(hs:Q01 E o fr σ x σ')(h:AOps E ops rest K ((d,x)::fr) σ')(hgd:o.guard=none:=by exact rfl)(Qza:o.dst=some d:=by exact rfl)(hd:Nat.ble (d+1) E.N=true:=by exact rfl):AOps E ops (o::rest) K fr σ:=Qv1 hgd Qza hd hs h
theorem zLD{t:TypeId}{j:Abs.Id}(ho:o.op=.load t x)(hx:Q08 E.Γ fr x=some (.one (.ptr j off)))(hg:σ.get j=some (.cells cs))(hc:cs[off]?=some c)(hT:Q0t E.P E.T:=by exact tabOk)(ht:Tab.get t E.T=some ti:=by exact rfl)(ha:ti.agg=false:=by exact rfl)(hs:Nat.beq ti.size 1=true:=by exact rfl):Q01 E o fr σ (.one c) σ:=Qw5 hT ho ht ha hs hx hg hc
theorem zIA{t:TypeId}{i:Operand}{k:IntKind}{s:Nat}{e:List AC}(ho:o.op=.indexAddr t x i)(hx:Q08 E.Γ fr x=some (.one (.sl s es)))(hi':Q08 E.Γ fr i=some (.one (.lit (.int k m))))(h0:0<=m)(he:es[m.toNat]?=some e)(hT:Q0t E.P E.T:=by exact tabOk)(ht:Tab.get t E.T=some ti:=by exact rfl)(hk:Nat.beq ti.kind 2=true:=by exact rfl)(hj:Tab.get ti.elem E.T=some tj:=by exact rfl)(hs:Nat.beq tj.size s=true:=by exact rfl):Q01 E o fr σ (.one (.box e)) σ:=Q01.indexAddr hT ho ht hk hj hs hx (.inl rfl) hi' h0 he
end
structure ZW (q:Prop):Prop where
 out:q
theorem zA{p:Prop}(h:q)(f:ZW q->p:=by
  intro h;repeat first|((with_reducible refine oj ?_);refine zau ?_)|(with_reducible refine zst ?_)|((with_reducible refine Q0e ?_ ?_);rfl)|(with_reducible refine ok ?_;first|refine Q00.condT rfl ?_|refine Q00.condF rfl ?_)
  exact h.out):p:=f ⟨h⟩
theorem zM{p:Prop}(h:q)(f:ZW q->p:=by
  intro h;repeat first|((with_reducible refine oj ?_);refine zau ?_)|(with_reducible refine zst ?_)|((with_reducible refine Q0e ?_ ?_);rfl)|(with_reducible refine ok ?_;first|refine Q00.condT rfl ?_|refine Q00.condF rfl ?_)|((with_reducible refine oj ?_);first|refine zad ?_|refine zsu ?_|refine zne ?_|refine zeq ?_|refine zmx ?_|refine zmn ?_|refine Qvz rfl rfl rfl ?_)
  exact h.out):p:=f ⟨h⟩
theorem zN{p:Prop}(h:q)(f:ZW q->p:=by
  intro h;first|((with_reducible refine oj ?_);refine zau ?_)|(with_reducible refine zst ?_)|((with_reducible refine Q0e ?_ ?_);rfl)|(with_reducible refine ok ?_;first|refine Q00.condT rfl ?_|refine Q00.condF rfl ?_)|((with_reducible refine oj ?_);first|refine zad ?_|refine zsu ?_|refine zne ?_|refine zeq ?_|refine zmx ?_|refine zmn ?_|refine Qvz rfl rfl rfl ?_)
  repeat first|((with_reducible refine oj ?_);refine zau ?_)|(with_reducible refine zst ?_)|((with_reducible refine Q0e ?_ ?_);rfl)|(with_reducible refine ok ?_;first|refine Q00.condT rfl ?_|refine Q00.condF rfl ?_)|((with_reducible refine oj ?_);first|refine zad ?_|refine zsu ?_|refine zne ?_|refine zeq ?_|refine zmx ?_|refine zmn ?_|refine Qvz rfl rfl rfl ?_)
  exact h.out):p:=f ⟨h⟩
theorem zO{p:Prop}(h:q)(f:ZW q->p:=by
  intro h;first|((with_reducible refine oj ?_);refine zau ?_)|(with_reducible refine zst ?_)|((with_reducible refine Q0e ?_ ?_);rfl)|(with_reducible refine ok ?_;first|refine Q00.condT rfl ?_|refine Q00.condF rfl ?_)|((with_reducible refine oj ?_);first|refine zad ?_|refine zsu ?_|refine zne ?_|refine zeq ?_|refine zmx ?_|refine zmn ?_|refine Qvz rfl rfl rfl ?_)
  exact h.out):p:=f ⟨h⟩
end Go.Proofs.YtlmokgooijbcdaaGreatDoor
namespace Go.Proofs.YtlmokgooijbcdaaGreatDoor
abbrev int (n:Int):AC:=.lit (.int .i64 n)
def cI (n:Int):List AC:=[int n]
def cAlt (a:Alt):List AC:=[int a.tag,.sl 1 (a.binds.map cI)]
def cEx (x:Ex):List AC:=[int x.op,int x.n,.sl 1 (x.binds.map cI),.sl 1 (x.kids.map cI),.sl 2 (x.alts.map cAlt)]
mutual
def Qqn:Tr->List AC
 |.mk o n b k a=>[int o,int n,.sl 1 (b.map cI),.sl 1 (Q1a k),.sl 2 (a.map cAlt)]
def Q1a:List Tr->List (List AC)
 |[]=>[]
 |t::ts=>[.box (Qqn t)]::Q1a ts
end
def cTr (t:Tr):List AC:=[int t.op,int t.n,.sl 1 (t.binds.map cI),.sl 1 (Q1a t.kids),.sl 2 (t.alts.map cAlt)]
def cB (t:Tr):List AC:=[.box (cTr t)]
theorem Qlr(t:Tr):Qqn t=cTr t:=by cases t;simp[Qqn,cTr]
theorem Q0i:∀l:List Tr,Q1a l=l.map cB
 |[]=>rfl
 |t::ts=>by simp[Q1a,Q0i ts,Qlr,cB]
theorem Q1x{l:List Tr}{t:Tr}(h:l[i]?=some t):(Q1a l)[i]?=some (cB t):=by rw[Q0i];simp[h]
attribute [simp] idsL idsS AC.ids FV.ids idsF Fr.ids inL isO AObj.ids
theorem Q2w{α:Type}{p:Abs.Id->Prop}{f:α->List AC}(h:∀x,idsL p (f x)):∀l:List α,idsS p (l.map f)
 |[]=>by simp
 |x::l=>by simp[h x,Q2w h l]
@[simp] theorem Qq0 (p:Abs.Id->Prop) (n:Int):idsL p (cI n):=by simp[cI]
@[simp] theorem Qfu (p:Abs.Id->Prop) (l:List Int):idsS p (l.map cI):=Q2w (Qq0 p) l
@[simp] theorem Qt9 (p:Abs.Id->Prop) (a:Alt):idsL p (cAlt a):=by simp[cAlt]
@[simp] theorem Qhg (p:Abs.Id->Prop) (l:List Alt):idsS p (l.map cAlt):=Q2w (Qt9 p) l
@[simp] theorem Qq2 (p:Abs.Id->Prop) (x:Ex):idsL p (cEx x):=by simp[cEx]
@[simp] theorem ids_cExs (p:Abs.Id->Prop) (l:List Ex):idsS p (l.map cEx):=Q2w (Qq2 p) l
mutual
theorem Qpy(p:Abs.Id->Prop):∀t:Tr,idsL p (Qqn t)
 |.mk o n b k a=>by simp[Qqn,Qa3 p k]
theorem Qa3(p:Abs.Id->Prop):∀l:List Tr,idsS p (Q1a l)
 |[]=>by simp[Q1a]
 |t::ts=>by simp[Q1a,Qpy p t,Qa3 p ts]
end
attribute [simp] Qa3
@[simp] theorem ids_cTr (p:Abs.Id->Prop) (t:Tr):idsL p (cTr t):=by simp[cTr]
@[simp] theorem ids_cB (p:Abs.Id->Prop) (t:Tr):idsL p (cB t):=by simp[cB]
@[simp] theorem ids_cBs (p:Abs.Id->Prop) (l:List Tr):idsS p (l.map cB):=Q2w (ids_cB p) l
@[simp] theorem len_encTrs (l:List Tr):(Q1a l).length=l.length:=by rw[Q0i];simp
@[simp] theorem Q4v (ρ:Nat->Nat) (l:List Int):renS ρ (l.map cI)=l.map cI:=Q2r ρ _ (Qfu _ l)
@[simp] theorem Q4w (ρ:Nat->Nat) (l:List Alt):renS ρ (l.map cAlt)=l.map cAlt:=Q2r ρ _ (Qhg _ l)
@[simp] theorem Qfa (ρ:Nat->Nat) (l:List Tr):renS ρ (l.map cB)=l.map cB:=Q2r ρ _ (ids_cBs _ l)
@[simp] theorem ren_cEx (ρ:Nat->Nat) (x:Ex):renL ρ (cEx x)=cEx x:=Q3k ρ _ (Qq2 _ x)
theorem Q0f{f:α->List AC}{l:List α}{a:α}(h:l[i]?=some a):(l.map f)[i]?=some (f a):=by simp[h]
theorem Q02{l:List α}(h:i < l.length):∃a,l[i]?=some a:=⟨l[i],Z47 h⟩
def arC:List AC:=(Q74.map fun n=>Value.int .i64 n).map .lit
def orC:List AC:=[3,4,6,7,5,1,2,11,8,9].map fun n=>.lit (.int .i64 n)
def Γc:List (Nat×List AC):=[(1,arC)]
theorem hΓc:∀g cs,(g,cs)∈Γc->idsL isO cs:=fun g cs h=>by
 simp[Γc]at h;first
  |(obtain⟨rfl,rfl⟩:=h;simp[arC,Q74];done)
  |(rcases h with ⟨rfl,rfl⟩|⟨rfl,rfl⟩ <;> simp[arC,orC,Q74])
theorem follows:Tryz.prog.follows .mixedOrders=true:=by kernel_rfl
theorem zwk{fn:Func}{c:Code}{args:List FV}{Q:FV->Q03->Prop}{Γ:List (Nat×List AC)}(N:Nat)(hf:Tryz.prog.funcs[g]?=some fn)(h:OuOk ou->Q00 ⟨Tryz.prog,tab,Γ,N,[]⟩ c (Q0a ⟨Tryz.prog,tab,Γ,N,[]⟩ (Fin ⟨Tryz.prog,tab,Γ,N,[]⟩ fn Q) []) (Q8e 0 args) ⟨0,[],ou⟩)(hb:fn.body=some c:=by exact rfl)(hname:(fn.name == "runtime.NumGoroutine")=false:=by kernel_rfl)(hN:fn.ntmps=N:=by exact rfl)(hlen:Nat.ble args.length N=true:=by exact rfl):AFn Tryz.prog Γ g args ou Q:=AFn.walk N tabOk hf hb hname hN hlen h
theorem zdx{id:Nat}{l:List Oper}(n:Nat)(cs:List (Nat×FV))(hcs:Q0g E l frb σ vs cs)(Qz8:AOps E l.toArray tl K fr' σ)(hT:Q0t E.P E.T:=by exact tabOk)(hm:E.P.follows .mixedOrders=true:=by exact follows)(hB:Q1n l n=true:=by kernel_rfl)(hsp:Q3h n l=some (hd,tl):=by exact rfl)(hfb:Qvf (dsts hd) fr=some frb:=by exact rfl)(hrun:Q0x E l.toArray l frb σ cs 0 hd []=some vs:=by exact rfl)(hfr:frOf hd vs frb=some fr':=by exact rfl):Q00 E (.region id l.toArray true) K fr σ:=Qvh hT n cs hm hB hsp hfb hrun hfr hcs Qz8
structure okX (x:Ex):Prop where
 b:x.binds.length<=1048576
 k:x.kids.length<=1048576
 a:x.alts.length<=1048576
 ab:∀a∈x.alts,a.binds.length<=1048576
structure okE (e:List Ex):Prop where
 l:e.length<=1048576
 x:∀x∈e,okX x
variable {Γ:List (Nat×List AC)}
def idxOf {α:Type}(p:α->Bool):List α->Int
 |[]=>-1
 |a::l=>if p a=true then 0 else if idxOf p l < 0 then -1 else idxOf p l+1
theorem Qlc{α:Type}{p:α->Bool}:∀l:List α,-1<=idxOf p l
 |[]=>by simp[idxOf]
 |a::l=>by
  have:=Qlc (p:=p) l;simp only[idxOf];split
  ·omega
  ·split <;> omega
theorem Q7g{α:Type}{p:α->Bool}:∀{l:List α},(∀x∈l,p x=false)->idxOf p l=-1
 |[],_=>rfl
 |a::l,h=>by simp only[idxOf,h a zsy,Q7g (l:=l) (fun x hx=>h x (by simp[hx]))];simp
theorem Qbi{α:Type}{p:α->Bool}:∀{l:List α}{j:Nat}{a:α},(∀x∈l.take j,p x=false)->l[j]?=some a->p a=true->idxOf p l=j
 |[],j,a,_,h,_=>by simp at h
 |x::l,0,a,_,h,hp=>by simp at h;subst h;simp[idxOf,hp]
 |x::l,j+1,a,h0,h,hp=>by have:=Qbi (l:=l) (j:=j) (fun y hy=>h0 y (by simp[hy])) (by simpa using h) hp;simp only[idxOf,h0 x zsy,this];rw[if_neg zsy,if_neg zoy];simp
theorem Qhd{α:Type}{p:α->Bool}:∀l:List α,0<=idxOf p l↔l.any p=true
 |[]=>by simp[idxOf]
 |a::l=>by
  have ih:=Qhd (p:=p) l;have hge:=Qlc (p:=p) l;simp only[idxOf,List.any_cons,Z34,←ih];by_cases hp:p a=true
  ·simp[hp]
  ·rw[if_neg hp];by_cases h:idxOf p l < 0
   ·rw[if_pos h];exact⟨fun h2=>by omega,fun h2=>h2.elim (fun h3=>absurd h3 hp) (fun h3=>by omega)⟩
   ·rw[if_neg h];exact⟨fun h2=>.inr zoy,fun h2=>by omega⟩
theorem Qcp(l:List α):decide (idxOf p l ≥ 0)=l.any p:=by rw[Z2x,decide_eq_true_iff];exact Qhd l
theorem Q2a{p:α->Prop}{l:List α}{a:α}(h:∀x∈l.take j,p x)(ha:l[j]?=some a)(hp:p a):∀x∈l.take (j+1),p x:=by
 intro x hx;rw[Z5t,ha]at hx;rcases Z50.1 hx with hx|hx
 ·exact h x hx
 ·simp at hx;subst hx;exact hp
theorem Qhj(h:idsL isO caps):idsF isO (caps.map .one):=by
 induction caps with
 |nil=>trivial
 |cons c l ih=>exact⟨h.1,ih h.2⟩
theorem Q7m(n low high:Int):Q09 Tryz.prog Γ 146 [.one (int n),.one (int low),.one (int high)] (.one (.lit (.bool (between n low high)))):=by
 intro ou;refine zwk 15 Tryz.func146 fun hou=>?_;repeat' first|((with_reducible refine oj ?_);refine zau ?_)|(with_reducible refine zst ?_)|((with_reducible refine Q0e ?_ ?_);rfl)|(with_reducible refine ok ?_;first|refine Q00.condT rfl ?_|refine Q00.condF rfl ?_)|(with_reducible refine oj ?_;refine Qvi rfl rfl rfl rfl (fun hb=>?_) (fun hb=>?_))|(with_reducible refine ok ?_;refine Q00.cond rfl (fun hb=>?_) (fun hb=>?_))
 all_goals exact Q09.fin rfl (Z7h (by simp[between];first|(simp_all;done)|(simp_all;omega))) zsy hou rfl
theorem Qjg(n:Int):Q09 Tryz.prog Γ 86 [.one (int n)] (.one (.lit (.bool (Q91 n)))):=by
 intro ou;refine zwk 13 Tryz.func86 fun hou=>?_;repeat' first|((with_reducible refine oj ?_);refine zau ?_)|(with_reducible refine zst ?_)|((with_reducible refine Q0e ?_ ?_);rfl)|(with_reducible refine ok ?_;first|refine Q00.condT rfl ?_|refine Q00.condF rfl ?_)|(with_reducible refine oj ?_;refine Qvi rfl rfl rfl rfl (fun hb=>?_) (fun hb=>?_))|(with_reducible refine ok ?_;refine Q00.cond rfl (fun hb=>?_) (fun hb=>?_))
 all_goals exact Q09.fin rfl (Z7h (by simp[Q91];simp_all)) zsy hou rfl
theorem Qji(n:Int):Q09 Tryz.prog Γ 85 [.one (int n)] (.one (.lit (.bool (Qbm n)))):=by
 intro ou;refine zwk 17 Tryz.func85 fun hou=>?_;repeat' first|((with_reducible refine oj ?_);refine zau ?_)|(with_reducible refine zst ?_)|((with_reducible refine Q0e ?_ ?_);rfl)|(with_reducible refine ok ?_;first|refine Q00.condT rfl ?_|refine Q00.condF rfl ?_)|(with_reducible refine oj ?_;refine Qvi rfl rfl rfl rfl (fun hb=>?_) (fun hb=>?_))|(with_reducible refine ok ?_;refine Q00.cond rfl (fun hb=>?_) (fun hb=>?_))
 all_goals exact Q09.fin rfl (Z7h (by simp[Qbm];simp_all)) zsy hou rfl
theorem Qu4(hΓ:GI Γ)(xs:List Int)(hx:xs.length<=1048576)(n:Int):
  Q09 Tryz.prog Γ 118 [.one (.sl 1 (xs.map cI)),.one (int n)] (.one (int (idxOf (n==·) xs))):=by
 intro ou;refine zwk 19 Tryz.func118 fun hou=>?_;refine zA ?_;refine Qv6 hΓ (α:=Nat) (fun j=>[(8,.one (int j)),(7,.one (int (xs.map cI).length)),(1,.one (int n)),(0,.one (.sl 1 (xs.map cI)))])
  (fun j=>⟨0,[],ou⟩) (fun m j=>j<=xs.length/\(∀x∈xs.take j,(n==x)=false)/\m=xs.length - j) (a0:=0) (ρ:=id) ⟨by omega,by simp,rfl⟩ (Z39 rfl zFS zsy zLO rfl rfl hou) fun m j hj=>?_
 obtain⟨hjl,hno,rfl⟩:=hj;refine zA ?_;refine Q00.cond rfl (fun hb2=>?_) (fun hb2=>?_)
 ·have hlt:j < xs.length:=by simpa using hb2
  obtain⟨a,ha⟩:=Q02 hlt;refine zA ?_;refine zS (zIA rfl rfl rfl zoy (by simpa using Q0f ha)) ?_;refine zA ?_;refine Q00.cond rfl (fun hb3=>?_) (fun hb3=>?_)
  ·refine zA ?_;refine Q09.fin rfl (Z7h ?_) zsy hou rfl;rw[Qbi hno ha hb3]
  ·refine zA ?_;refine zS (Qus rfl rfl rfl (.inl ⟨rfl,rfl⟩) zI) ?_;refine zA ?_;exact cInv ⟨xs.length - (j+1),j+1,id,by omega,⟨by omega,Q2a hno ha hb3,rfl⟩,Z39 rfl zFS zsy zLO rfl rfl hou⟩
 ·have hlt:j=xs.length:=by simp at hb2;omega
  subst hlt;rw[Z5w]at hno;refine zA ?_;refine Q09.fin rfl (Z7h ?_) zsy hou rfl;rw[Q7g hno]
theorem Qjw(hΓ:GI Γ)(xs:List Int)(hx:xs.length<=1048576)(n:Int):
  Q09 Tryz.prog Γ 91 [.one (.sl 1 (xs.map cI)),.one (int n)] (.one (.lit (.bool (xs.contains n)))):=by
 intro ou;refine zwk 9 Tryz.func91 fun hou=>?_;refine zA ?_;refine zca hΓ (Qu4 hΓ xs hx n) hou ?_;refine zA ?_;refine Q09.fin rfl (Z7h ?_) zsy hou rfl;rw[Qcp,List.any_beq]
theorem Qno(hΓ:GI Γ)(gf:Nat)(caps:List AC)(hcap:idsL isO caps)(p:Alt->Bool)(xs:List Alt)(hx:xs.length<=1048576)(hf:∀a∈xs,Q09 Tryz.prog Γ gf (.agg (cAlt a)::caps.map .one) (.one (.lit (.bool (p a))))):
  Q09 Tryz.prog Γ 215 [.one (.sl 2 (xs.map cAlt)),.one (.fn (.func gf) [] caps)] (.one (int (idxOf p xs))):=by
 intro ou;refine zwk 19 Tryz.func215 fun hou=>?_;refine zA ?_;refine Qv6 hΓ (α:=Nat) (fun j=>[(8,.one (int j)),(7,.one (int (xs.map cAlt).length)),(1,.one (.fn (.func gf) [] caps)),(0,.one (.sl 2 (xs.map cAlt)))])
  (fun j=>⟨0,[],ou⟩) (fun m j=>j<=xs.length/\(∀x∈xs.take j,p x=false)/\m=xs.length - j) (a0:=0) (ρ:=id) ⟨by omega,by simp,rfl⟩ (Z39 rfl ?_ ?_ zLO rfl rfl hou) fun m j hj=>?_
 ·refine .cons rfl (.ofEq rfl) (.cons rfl (.ofEq rfl) (.consP rfl (.ofEq rfl) (by simp[hcap]) (.consP rfl (.ofEq rfl) zsy .nil)))
 ·simp[Q1f Q88 caps hcap]
 obtain⟨hjl,hno,rfl⟩:=hj;refine zA ?_;refine Q00.cond rfl (fun hb2=>?_) (fun hb2=>?_)
 ·have hlt:j < xs.length:=by simpa using hb2
  obtain⟨a,ha⟩:=Q02 hlt;have hca:=hf a (Z5c ha);refine zA ?_;refine zS (zIA rfl rfl rfl zoy (by simpa using Q0f ha)) ?_;refine zA ?_;refine Qvd hΓ hca rfl rfl rfl rfl rfl rfl rfl hou (by simp[Qhj hcap]) ?_;refine zA ?_;refine Q00.cond rfl (fun hb3=>?_) (fun hb3=>?_)
  ·refine zA ?_;refine Q09.fin rfl (Z7h ?_) zsy hou rfl;rw[Qbi hno ha hb3]
  ·refine zA ?_;refine zS (Qus rfl rfl rfl (.inl ⟨rfl,rfl⟩) zI) ?_;refine zA ?_;refine cInv ⟨xs.length - (j+1),j+1,id,by omega,⟨by omega,Q2a hno ha hb3,rfl⟩,Z39 rfl ?_ ?_ zLO rfl rfl hou⟩
   ·refine .cons rfl (.ofEq rfl) (.cons rfl (.ofEq rfl) (.consP rfl (.ofEq rfl) (by simp[hcap]) (.consP rfl (.ofEq rfl) zsy .nil)))
   ·simp[Q1f Q88 caps hcap]
 ·have hlt:j=xs.length:=by simp at hb2;omega
  subst hlt;rw[Z5w]at hno;refine zA ?_;refine Q09.fin rfl (Z7h ?_) zsy hou rfl;rw[Q7g hno]
theorem Qrm(hΓ:GI Γ)(gf:Nat)(caps:List AC)(hcap:idsL isO caps)(p:Alt->Bool)(xs:List Alt)(hx:xs.length<=1048576)(hf:∀a∈xs,Q09 Tryz.prog Γ gf (.agg (cAlt a)::caps.map .one) (.one (.lit (.bool (p a))))):
  Q09 Tryz.prog Γ 177 [.one (.sl 2 (xs.map cAlt)),.one (.fn (.func gf) [] caps)] (.one (.lit (.bool (xs.any p)))):=by
 intro ou;refine zwk 9 Tryz.func177 fun hou=>?_;refine zA ?_;refine Qvd hΓ (Qno hΓ gf caps hcap p xs hx hf) rfl rfl rfl rfl rfl rfl rfl hou (by simp[hcap]) ?_;refine zA ?_;refine Q09.fin rfl (Z7h ?_) zsy hou rfl;rw[←Qcp]
theorem Qtx(b a:Alt):Q09 Tryz.prog Γ 178 [.agg (cAlt b),.one (.box (cAlt a))] (.one (.lit (.bool (b.tag==a.tag)))):=by intro ou;refine zwk 9 Tryz.func178 fun hou=>?_;refine zA ?_;exact Q09.fin rfl (Z7h rfl) zsy hou rfl
theorem Qtt(e:List Ex)(k:Int)(x:Ex)(h0:0<=k)(hx:e[k.toNat]?=some x):Q09 Tryz.prog Γ 88 [.one (int k),.one (.box [.sl 5 (e.map cEx)])] (.agg (cEx x)):=by intro ou;refine zwk 8 Tryz.func88 fun hou=>?_;refine zA ?_;refine zS (zIA rfl rfl rfl h0 (Q0f hx)) ?_;refine zA ?_;exact Q09.fin rfl (Z7h rfl) zsy hou rfl
theorem alts_ok(hΓ:GI Γ)(x:Ex)(hx:okX x):Q09 Tryz.prog Γ 145 [.agg (cEx x)] (.one (.lit (.bool (Q9g x)))):=by
 have hxa:=hx.a;have hxb:=hx.ab;have hxk:=hx.k;intro ou;refine zwk 94 Tryz.func145 fun hou=>?_;refine zA ?_;refine Qv6 hΓ (α:=Nat) (fun j=>[(9,.one (int j)),(8,.one (int (x.alts.map cAlt).length)),(7,.one (.sl 2 (x.alts.map cAlt))),(1,.one (.ptr (.l 0) 0))])
  (fun j=>⟨1,[(0,.cells (cEx x))],ou⟩) (fun m j=>j<=x.alts.length/\(∀ai∈x.alts.zipIdx.take j,Q6d x ai.2 ai.1=false)/\m=x.alts.length - j) (a0:=0) (ρ:=id) ⟨by omega,by simp,rfl⟩ (Z39 rfl zFS zsy zLO rfl rfl hou) fun m j hj=>?_
 obtain⟨hjl,hno,rfl⟩:=hj;refine zA ?_;refine Q00.cond rfl (fun hb2=>?_) (fun hb2=>?_)
 ·have hlt:j < x.alts.length:=by simpa using hb2
  obtain⟨a,ha⟩:=Q02 hlt;have haz:x.alts.zipIdx[j]?=some (a,j):=by simp[Z4e,ha]
  have hab:=hxb a (Z5c ha);have bad:Q6d x j a=true->Q9g x=false:=fun h=>by have:x.alts.zipIdx.any (fun ai=>Q6d x ai.2 ai.1)=true:=Z3d.2 ⟨(a,j),Z5c haz,h⟩;simp[Q9g,this]
  refine zA ?_;refine zS (zIA rfl rfl rfl zoy (Q0f ha)) ?_;refine zA ?_;refine zS (Qvq tabOk rfl rfl rfl rfl rfl rfl zuy) ?_;refine Z2l (.l 1) 4 rfl rfl ?_;refine Z2n 17 rfl (y:=.one (.sl 2 ((x.alts.take j).map cAlt))) (.ofEq (by rw[Z4y])) ?_;refine zA ?_;have hca:=Qrm hΓ 178 [.box (cAlt a)] zsy (fun b=>b.tag==a.tag) (x.alts.take j) zuy (fun b _=>Qtx b a);obtain⟨q,hq⟩:∃q,(x.alts.take j).any (fun b=>b.tag==a.tag)=q:=⟨_,rfl⟩;rw[hq]at hca;refine Qvd hΓ hca rfl rfl rfl rfl rfl rfl rfl hou (by simp[-List.map_take]) ?_;have fin:∀fr' σ',Q6d x j a=true->aRes tab fr' σ' Tryz.f145.results.toList=some (.one (.lit (.bool false)))->σ'.ou=ou->Abs.Fin ⟨Tryz.prog,tab,Γ,94,[]⟩ Tryz.f145 (fun r' ou'=>r'=.one (.lit (.bool (Q9g x)))/\ou'=ou) fr' σ':=fun fr' σ' h1 h2 h3=>
   Q09.fin h2 (Z7h (by rw[bad h1])) zsy hou h3
  repeat' first|refine zN ?_|(with_reducible refine oj ?_;refine Qvi rfl rfl rfl rfl (fun hb=>?_) (fun hb=>?_))|(with_reducible refine ok ?_;first|refine Qwd rfl (fun hb=>?_) (fun hb=>?_)|refine Q00.cond rfl (fun hb=>?_) (fun hb=>?_))
  all_goals first
   |(
    refine fin _ _ ?_ rfl rfl;subst hq;simp_all[Q6d]
    done)
   |(
    refine cInv ⟨x.alts.length - (j+1),j+1,fun k=>if k=0 then 0 else k,by omega,⟨by omega,Q2a hno haz ?_,rfl⟩,Z39 rfl zFS zsy zLO rfl rfl hou⟩;subst hq;simp_all[Q6d]
    done)
 ·have hlt:j=x.alts.length:=by simp at hb2;omega
  subst hlt;have e:Q9g x=((x.kids.length:Int)==1+x.alts.length&&(x.op==7||decide (0 < x.alts.length))):=by
   have hall:x.alts.zipIdx.any (fun ai=>Q6d x ai.2 ai.1)=false:=by rw[Z3c];intro ai hai;have:=hno ai (by rw[Z5x zsy];exact hai);simp[this]
   simp only[Q9g,hall,Bool.not_false,Bool.true_and]
  clear hno;repeat' first|refine zN ?_|(with_reducible refine oj ?_;refine Qvi rfl rfl rfl rfl (fun hb=>?_) (fun hb=>?_))|(with_reducible refine ok ?_;first|refine Qwd rfl (fun hb=>?_) (fun hb=>?_)|refine Q00.cond rfl (fun hb=>?_) (fun hb=>?_))
  all_goals
   refine Q09.fin rfl (Z7h ?_) zsy hou rfl;rw[e];simp_all
theorem arC_get(h0:0<=n)(h1:n<=11):(arC.drop (n.toNat * ti3.size))[0]?=some (int (Q74.getD n.toNat 0)):=by
 obtain⟨m,rfl⟩:∃m:Nat,n=m:=⟨n.toNat,by omega⟩;have hm:m < 12:=by omega
 rw[Z38,show ti3.size=1 from rfl,Z6h]
 match m,hm with
 |0,_=>rfl
 |1,_=>rfl
 |2,_=>rfl
 |3,_=>rfl
 |4,_=>rfl
 |5,_=>rfl
 |6,_=>rfl
 |7,_=>rfl
 |8,_=>rfl
 |9,_=>rfl
 |10,_=>rfl
 |11,_=>rfl
def wk (x:Ex):Int×Int×Bool:=(wants x).getD (0,0,false)
theorem Qrx(x:Ex)(hx:okX x):Q09 Tryz.prog Γc 114 [.agg (cEx x)] (.one (.lit (.bool (CoreX.shape x)))):=by
 have hxa:=hx.a;have hxb:=hx.b;have hxk:=hx.k;have hal:=alts_ok hΓc x hx;intro ou;refine zwk 113 Tryz.func114 fun hou=>?_;repeat' first|(with_reducible refine oj ?_;refine AOps.auto tabOk rfl ?_)|(with_reducible first|refine o1 ?_|refine o2 ?_|refine o3 ?_|refine o4 ?_|refine o5 ?_|refine o6 ?_|refine o7 ?_|refine o8 ?_|refine oa ?_|refine ob ?_|refine oc ?_|refine od ?_|refine oe ?_|refine og ?_|refine oh ?_|refine oi ?_)|(with_reducible refine Q0e ?_ ?_;rfl)|(with_reducible refine ok ?_;first|refine Q00.condT rfl ?_|refine Q00.condF rfl ?_)|((with_reducible refine oj ?_);first|refine zad ?_|refine zsu ?_|refine zne ?_|refine zeq ?_|refine zmx ?_|refine zmn ?_|refine Qvz rfl rfl rfl ?_)
 refine Qvy hΓc (α:=Unit) (fun _=>[(5,.one (.lit (.bool (wk x).2.2))),(4,.one (int (wk x).2.1)),(3,.one (int (wk x).1)),(1,.one (.ptr (.l 0) 0))])
  (fun _=>⟨1,[(0,.cells (cEx x))],ou⟩) (fun _=>(wants x).isSome=true/\¬(x.op=7∨x.op=13)) ?_ fun _ ha=>?_
 ·repeat' first|refine zN ?_|(with_reducible refine oj ?_;refine Qvi rfl rfl rfl rfl (fun hb=>?_) (fun hb=>?_))|(with_reducible refine ok ?_;first|refine Qwd rfl (fun hb=>?_) (fun hb=>?_)|refine Q00.cond rfl (fun hb=>?_) (fun hb=>?_))
  all_goals try (guard_hyp hb:(x.op==2)=true;refine Qvh tabOk 4 [] follows zky rfl rfl rfl rfl .nil ?_;repeat' first|refine zN ?_|(with_reducible refine oj ?_;refine Qvi rfl rfl rfl rfl (fun hb=>?_) (fun hb=>?_))|(with_reducible refine ok ?_;first|refine Qwd rfl (fun hb=>?_) (fun hb=>?_)|refine Q00.cond rfl (fun hb=>?_) (fun hb=>?_)))
  all_goals try (guard_hyp hb:(x.op==9)=true;refine Qvh tabOk 7 [] follows zky rfl rfl rfl rfl .nil ?_;repeat' first|refine zN ?_|(with_reducible refine oj ?_;refine Qvi rfl rfl rfl rfl (fun hb=>?_) (fun hb=>?_))|(with_reducible refine ok ?_;first|refine Qwd rfl (fun hb=>?_) (fun hb=>?_)|refine Q00.cond rfl (fun hb=>?_) (fun hb=>?_)))
  all_goals try (guard_hyp hb:(x.op==5)=true;refine Qvh tabOk 9 [(3,.one (int (((x.binds.map cI).length:Int)+1))),(7,.one (int (if ((x.binds.map cI).length:Int) > 1 then ((x.binds.map cI).length:Int)else 1)))] follows zky rfl rfl rfl rfl (.step rfl (zHP (Qus rfl rfl rfl (.inl ⟨rfl,rfl⟩) (Q3b zuy zuy))) (.step rfl (zHP (Q01.max2 (t:=3) (ty:=3) rfl rfl rfl)) .nil)) ?_;repeat' first|refine zN ?_|(with_reducible refine oj ?_;refine Qvi rfl rfl rfl rfl (fun hb=>?_) (fun hb=>?_))|(with_reducible refine ok ?_;first|refine Qwd rfl (fun hb=>?_) (fun hb=>?_)|refine Q00.cond rfl (fun hb=>?_) (fun hb=>?_)))
  all_goals try (refine zca hΓc hal hou ?_;repeat' first|refine zN ?_|(with_reducible refine oj ?_;refine Qvi rfl rfl rfl rfl (fun hb=>?_) (fun hb=>?_))|(with_reducible refine ok ?_;first|refine Qwd rfl (fun hb=>?_) (fun hb=>?_)|refine Q00.cond rfl (fun hb=>?_) (fun hb=>?_)))
  all_goals try (refine zca hΓc (Q7m x.n 0 11) hou ?_;repeat' first|refine zN ?_|(with_reducible refine oj ?_;refine Qvi rfl rfl rfl rfl (fun hb=>?_) (fun hb=>?_))|(with_reducible refine ok ?_;first|refine Qwd rfl (fun hb=>?_) (fun hb=>?_)|refine Q00.cond rfl (fun hb=>?_) (fun hb=>?_)))
  all_goals try (refine zS (Qvt tabOk rfl rfl rfl rfl rfl rfl (by simp_all[between]) (by simp_all[between];show x.n < 12;omega)) ?_;refine zS (Qwe tabOk rfl rfl rfl rfl rfl (arC_get (by simp_all[between]) (by simp_all[between]))) ?_;repeat' first|refine zN ?_|(with_reducible refine oj ?_;refine Qvi rfl rfl rfl rfl (fun hb=>?_) (fun hb=>?_))|(with_reducible refine ok ?_;first|refine Qwd rfl (fun hb=>?_) (fun hb=>?_)|refine Q00.cond rfl (fun hb=>?_) (fun hb=>?_)))
  all_goals first
   |(refine cInv ⟨(),id,⟨?_,?_⟩,Z39 rfl (Q0k.cons rfl (.ofEq ?_) (Q0k.cons rfl (.ofEq ?_) (Q0k.cons rfl (.ofEq ?_) (Q0k.cons rfl (.ofEq rfl) .nil)))) zsy zLO rfl rfl hou⟩ <;> simp_all[wants,wk,FV.ren,AC.ren] <;> done)
   |(
    refine Q09.fin rfl (Z7h ?_) zsy hou rfl;simp_all[CoreX.shape,wants]
    done)
 ·obtain⟨hw0,hn⟩:=ha;have hw:wants x=some (wk x):=by
   unfold wk;cases h:wants x with
   |none=>rw[h]at hw0;cases hw0
   |some v=>rfl
  generalize wk x=kbu at hw;obtain⟨k,b,u⟩:=kbu;have e:CoreX.shape x=((x.kids.length:Int)==k&&(x.binds.length:Int)==b&&x.alts.length==0&&(u||x.n==0)):=by unfold CoreX.shape;rw[if_neg hn,hw]
  repeat' first|refine zN ?_|(with_reducible refine oj ?_;refine Qvi rfl rfl rfl rfl (fun hb=>?_) (fun hb=>?_))|(with_reducible refine ok ?_;first|refine Qwd rfl (fun hb=>?_) (fun hb=>?_)|refine Q00.cond rfl (fun hb=>?_) (fun hb=>?_))
  all_goals
   refine Q09.fin rfl (Z7h ?_) zsy hou rfl;rw[e];simp_all
def Q4p (x:Ex)(j:Nat):Int:=(x.alts.take j).foldl (fun f a=>if (a.binds.length:Int) > f then a.binds.length else f) x.binds.length
theorem Qfx{x:Ex}{a:Alt}(h:x.alts[j]?=some a):Q4p x (j+1)=if (a.binds.length:Int) > Q4p x j then (a.binds.length:Int)else Q4p x j:=by simp[Q4p,Z5t,h,Z3y]
theorem Qd8{l:List α}{a:α}(h:l[j]?=some a)(hp:p a=false):l.all p=false:=by rw[List.all_eq_false];exact⟨a,Z5c h,by simp[hp]⟩
theorem Qg8{l:List α}(h:∀x∈l.take l.length,p x=true):l.all p=true:=by rw[Z5w]at h;exact Z3b.2 h
theorem Qol(hΓ:GI Γ)(x:Ex)(hx:okX x):Q09 Tryz.prog Γ 115 [.agg (cEx x)] (.one (int (ranges x))):=by
 have hxa:=hx.a;have hxb:=hx.b;have hxk:=hx.k;have hab:=hx.ab;intro ou;refine zwk 124 Tryz.func115 fun hou=>?_;repeat' first|(with_reducible refine oj ?_;refine AOps.auto tabOk rfl ?_)|(with_reducible first|refine o1 ?_|refine o2 ?_|refine o3 ?_|refine o4 ?_|refine o5 ?_|refine o6 ?_|refine o7 ?_|refine o8 ?_|refine oa ?_|refine ob ?_|refine oc ?_|refine od ?_|refine oe ?_|refine og ?_|refine oh ?_|refine oi ?_)|(with_reducible refine Q0e ?_ ?_;rfl)|(with_reducible refine ok ?_;first|refine Q00.condT rfl ?_|refine Q00.condF rfl ?_)|((with_reducible refine oj ?_);first|refine zad ?_|refine zsu ?_|refine zne ?_|refine zeq ?_|refine zmx ?_|refine zmn ?_|refine Qvz rfl rfl rfl ?_)
 refine Qvy hΓ (α:=Unit) (fun _=>[(4,.one (int (lowN x.op))),(3,.one (int (Qta x.op))),(1,.one (.ptr (.l 0) 0))])
  (fun _=>⟨1,[(0,.cells (cEx x))],ou⟩) (fun _=>True) ?_ fun _ _=>?_
 ·repeat' first|refine zN ?_|(with_reducible refine oj ?_;refine Qvi rfl rfl rfl rfl (fun hb=>?_) (fun hb=>?_))|(with_reducible refine ok ?_;first|refine Qwd rfl (fun hb=>?_) (fun hb=>?_)|refine Q00.cond rfl (fun hb=>?_) (fun hb=>?_))
  all_goals
   refine cInv ⟨(),id,trivial,Z39 rfl (Q0k.cons rfl (.ofEq ?_) (Q0k.cons rfl (.ofEq ?_) (Q0k.cons rfl (.ofEq rfl) .nil))) zsy zLO rfl rfl hou⟩;all_goals simp_all[lowN,Qta,FV.ren,AC.ren]
 refine zA ?_;refine zca hΓ (Q7m x.n (lowN x.op) (Qta x.op)) hou ?_;refine zA ?_;refine Q00.cond rfl (fun hb=>?_) (fun hb=>?_)
 ·refine zA ?_;refine Q09.fin rfl (Z7h ?_) zsy hou rfl;simp_all[ranges]
 have hn:ranges x=if x.binds.all Q40=false then 4 else if x.alts.all (Q4q x.op)=false then 4 else if ((decide (fields x > (if x.op=2 then 6 else 16))||((x.op==6||x.op==15)&&decide (16 < (x.kids.length:Int))))||(x.op==3&&decide (7 < (x.kids.length:Int))))||(x.op==14&&decide (6 < (x.kids.length:Int)))then 2 else 0:=by unfold ranges;rw[if_neg (by simp_all)]
 clear hb;refine zA ?_;refine Qv6 hΓ (α:=Nat) (fun j=>[(35,.one (int j)),(34,.one (int (x.binds.map cI).length)),(33,.one (.sl 1 (x.binds.map cI))),(5,.one (int (x.binds.map cI).length)),(1,.one (.ptr (.l 0) 0))])
  (fun j=>⟨1,[(0,.cells (cEx x))],ou⟩) (fun m j=>j<=x.binds.length/\(∀b∈x.binds.take j,Q40 b=true)/\m=x.binds.length - j) (a0:=0) (ρ:=id) ⟨by omega,by simp,rfl⟩ (Z39 rfl zFS zsy zLO rfl rfl hou) fun m j hj=>?_
 obtain⟨hjl,hno,rfl⟩:=hj;refine zA ?_;refine Q00.cond rfl (fun hb2=>?_) (fun hb2=>?_)
 ·have hlt:j < x.binds.length:=by simpa using hb2
  obtain⟨b,hbj⟩:=Q02 hlt;refine zA ?_;refine zS (zIA rfl rfl rfl zoy (Q0f hbj)) ?_;refine zA ?_;refine zca hΓ (Q7m b 0 1048575) hou ?_;refine zA ?_;refine Q00.cond rfl (fun hb=>?_) (fun hb=>?_)
  ·refine zA ?_;refine Q09.fin rfl (Z7h ?_) zsy hou rfl;rw[hn,if_pos (Qd8 hbj (by simpa[Q40]using hb))]
  ·refine zM ?_;exact cInv ⟨x.binds.length - (j+1),j+1,id,by omega,⟨by omega,Q2a hno hbj (by simpa[Q40]using hb),rfl⟩,Z39 rfl zFS zsy zLO rfl rfl hou⟩
 have hlt:j=x.binds.length:=by simp at hb2;omega
 subst hlt;rw[if_neg (by simp[Qg8 hno])]at hn;clear hno hb2 hjl;refine zA ?_;refine Qv6 hΓ (α:=Nat) (fun j=>[(46,.one (int j)),(45,.one (int (x.alts.map cAlt).length)),(44,.one (.sl 2 (x.alts.map cAlt))),(5,.one (int (Q4p x j))),(1,.one (.ptr (.l 0) 0))])
  (fun j=>⟨1,[(0,.cells (cEx x))],ou⟩) (fun m j=>j<=x.alts.length/\(∀b∈x.alts.take j,Q4q x.op b=true)/\m=x.alts.length - j) (a0:=0) (ρ:=id) ⟨by omega,by simp,rfl⟩ (Z39 rfl (Q0k.cons rfl (.ofEq rfl) (Q0k.cons rfl (.ofEq rfl) (Q0k.consP rfl (.ofEq rfl) zsy (Q0k.cons rfl (.ofEq (by simp[Q4p,FV.ren,AC.ren])) (Q0k.cons rfl (.ofEq rfl) .nil))))) zsy zLO rfl rfl hou) fun m j hj=>?_
 obtain⟨hjl,hno,rfl⟩:=hj;refine zA ?_;refine Q00.cond rfl (fun hb2=>?_) (fun hb2=>?_)
 ·have hlt:j < x.alts.length:=by simpa using hb2
  obtain⟨a,ha⟩:=Q02 hlt;have hal:=hab a (Z5c ha);refine zA ?_;refine zS (zIA rfl rfl rfl zoy (Q0f ha)) ?_;have bad:Q4q x.op a=false->ranges x=4:=fun h=>by rw[hn,if_pos (Qd8 ha h)]
  repeat' first|refine zN ?_|(with_reducible refine oj ?_;refine Qvi rfl rfl rfl rfl (fun hb=>?_) (fun hb=>?_))|(with_reducible refine ok ?_;first|refine Qwd rfl (fun hb=>?_) (fun hb=>?_)|refine Q00.cond rfl (fun hb=>?_) (fun hb=>?_))
  all_goals try (refine Q09.fin rfl (Z7h ?_) zsy hou rfl;rw[bad (by simp_all[Q4q])];done)
  all_goals
   have hr:Q4q x.op a=a.binds.all Q40:=by
    have:((decide (255 < a.tag)&&x.op==7)||decide (1048576<=a.tag))=false:=by first|(simp_all;done)|(simp_all;intro h;omega)
    unfold Q4q;rw[this];simp
   rw[hr]at bad;refine Qv6 hΓ (α:=Nat) (fun i=>[(66,.one (int i)),(65,.one (int (a.binds.map cI).length)),(64,.one (.sl 1 (a.binds.map cI))),(9,.one (.ptr (.l 1) 0)),(46,.one (int j)),(45,.one (int (x.alts.map cAlt).length)),(44,.one (.sl 2 (x.alts.map cAlt))),(5,.one (int (Q4p x j))),(1,.one (.ptr (.l 0) 0))])
    (fun i=>⟨2,[(1,.cells (cAlt a)),(0,.cells (cEx x))],ou⟩) (fun m i=>i<=a.binds.length/\(∀b∈a.binds.take i,Q40 b=true)/\m=a.binds.length - i) (a0:=0) (ρ:=id) ⟨by omega,by simp,rfl⟩ (Z39 rfl zFS zsy zLO rfl rfl hou) fun m i hi=>?_
   obtain⟨hil,hno2,rfl⟩:=hi;refine zA ?_;refine Q00.cond rfl (fun hb3=>?_) (fun hb3=>?_)
   ·have Qz9:i < a.binds.length:=by simpa using hb3
    obtain⟨b,hbj⟩:=Q02 Qz9;refine zA ?_;refine zS (zIA rfl rfl rfl zoy (Q0f hbj)) ?_;refine zA ?_;refine zca hΓ (Q7m b 0 1048575) hou ?_;refine zA ?_;refine Q00.cond rfl (fun hb4=>?_) (fun hb4=>?_)
    ·refine zA ?_;refine Q09.fin rfl (Z7h ?_) zsy hou rfl;rw[bad (Qd8 hbj (by simpa[Q40]using hb4))]
    ·refine zM ?_;exact cInv ⟨a.binds.length - (i+1),i+1,id,by omega,⟨by omega,Q2a hno2 hbj (by simpa[Q40]using hb4),rfl⟩,Z39 rfl zFS zsy zLO rfl rfl hou⟩
   ·have Qz9:i=a.binds.length:=by simp at hb3;omega
    subst Qz9;refine zM ?_;refine cInv ⟨x.alts.length - (j+1),j+1,id,by omega,⟨by omega,Q2a hno ha (by rw[hr];exact Qg8 hno2),rfl⟩,Z39 rfl (Q0k.cons rfl (.ofEq rfl) (Q0k.cons rfl (.ofEq rfl) (Q0k.consP rfl (.ofEq rfl) zsy (Q0k.cons rfl (.ofEq ?_) (Q0k.cons rfl (.ofEq rfl) .nil))))) zsy zLO rfl rfl hou⟩;rw[Qfx ha];simp[FV.ren,AC.ren]
 ·have hlt:j=x.alts.length:=by simp at hb2;omega
  subst hlt;rw[if_neg (by simp[Qg8 hno])]at hn;have hf:Q4p x x.alts.length=fields x:=by simp[Q4p,fields]
  rw[hf];clear hno hb2 hjl hf;generalize fields x=f at hn;repeat' first|refine zN ?_|(with_reducible refine oj ?_;refine Qvi rfl rfl rfl rfl (fun hb=>?_) (fun hb=>?_))|(with_reducible refine ok ?_;first|refine Qwd rfl (fun hb=>?_) (fun hb=>?_)|refine Q00.cond rfl (fun hb=>?_) (fun hb=>?_))
  all_goals
   refine Q09.fin rfl (Z7h ?_) zsy hou rfl;rw[hn];simp_all
theorem Qo7{x:Ex}(h:CoreX.shape x=true)(h5:x.op=5):x.kids.length=x.binds.length+1:=by unfold CoreX.shape wants at h;simp[h5]at h;omega
theorem Qh5(e:List Ex)(x:Ex)(hx:okX x)(hk:∀k∈x.kids,0<=k/\k.toNat < e.length):
  Q09 Tryz.prog Γc 87 [.agg (cEx x),.one (.fn (.func 88) [] [.box [.sl 5 (e.map cEx)]])] (.one (int (Q2k e x))):=by
 have hxb:=hx.b;intro ou;refine zwk 59 Tryz.func87 fun hou=>?_;refine zA ?_;refine zca hΓc (Qrx x hx) hou ?_;refine zA ?_;refine Q00.cond rfl (fun hb=>?_) (fun hb=>?_)
 ·refine zA ?_;refine Q09.fin rfl (Z7h ?_) zsy hou rfl;simp_all[Q2k]
 have hs:CoreX.shape x=true:=by simpa using hb
 clear hb;refine zA ?_;refine zca hΓc (Qol hΓc x hx) hou ?_;refine zA ?_;refine Q00.cond rfl (fun hb=>?_) (fun hb=>?_)
 ·refine zA ?_;refine Q09.fin rfl (Z7h ?_) zsy hou rfl;have:ranges x≠0:=by simpa using hb
  simp[Q2k,hs,this]
 have hr:ranges x=0:=by simpa using hb
 clear hb;have hn:Q2k e x=if (List.range x.binds.length).any (Q26 e x)=true then 3 else 0:=by simp[Q2k,hs,hr]
 refine zA ?_;refine Qv6 hΓc (α:=Nat) (fun j=>[(18,.one (int j)),(17,.one (int (x.binds.map cI).length)),(2,.one (.ptr (.l 0) 0)),(1,.one (.fn (.func 88) [] [.box [.sl 5 (e.map cEx)]]))])
  (fun j=>⟨1,[(0,.cells (cEx x))],ou⟩) (fun m j=>j<=x.binds.length/\(∀i∈(List.range x.binds.length).take j,Q26 e x i=false)/\m=x.binds.length - j) (a0:=0) (ρ:=id) ⟨by omega,by simp,rfl⟩ (Z39 rfl zFS zsy zLO rfl rfl hou) fun m j hj=>?_
 obtain⟨hjl,hno,rfl⟩:=hj;refine zA ?_;refine Q00.cond rfl (fun hb2=>?_) (fun hb2=>?_)
 ·have hlt:j < x.binds.length:=by simpa using hb2
  have hrj:(List.range x.binds.length)[j]?=some j:=by simp[hlt]
  obtain⟨b,hbj⟩:=Q02 hlt;refine zA ?_;have bad:Q26 e x j=true->Q2k e x=3:=fun h=>by rw[hn,if_pos (Z3d.2 ⟨j,by simp[hlt],h⟩)]
  by_cases h5:x.op=5
  ·have hkl:j < x.kids.length:=by have:=Qo7 hs h5;omega
   obtain⟨k,hkj⟩:=Q02 hkl;obtain⟨k0,k1⟩:=hk k (Z5c hkj);obtain⟨y,hy⟩:=Q02 k1;have hcall:=Qtt (Γ:=Γc) e k y k0 hy;have hbb:Q26 e x j=!(y.op==2):=by
    have e1:x.kids.getD j 0=k:=by simp[List.getD,hkj]
    have e2:e.getD k.toNat ⟨0,0,[],[],[]⟩=y:=by simp[List.getD,hy]
    unfold Q26;rw[e1,e2];simp[h5]
   rw[hbb]at bad;cases hy2:(y.op==2) with
   |false=>
    refine zdx 36 [(2,.one (.lit (.bool true))),(8,.one (.box (cI k))),(10,.agg (cEx y)),(12,.one (.lit (.bool true)))] ?_ ?_
    ·refine .step rfl (Qvu tabOk rfl (by simp[h5])) ?_;refine .step rfl (Qv7 rfl rfl rfl (zIA rfl rfl rfl zoy (Q0f hkj))) ?_;refine .step rfl (Qv7 rfl rfl rfl (Qv4 hΓc rfl rfl rfl rfl zsy hou hcall)) ?_;exact .step rfl (Qvu tabOk rfl (by simp_all)) .nil
    refine zM ?_;refine Q09.fin rfl (Z7h ?_) zsy hou rfl;rw[bad (by simp[hy2])]
   |true=>
    refine zdx 36 [(2,.one (.lit (.bool true))),(8,.one (.box (cI k))),(10,.agg (cEx y)),(12,.one (.lit (.bool false))),(17,.one (.lit (.bool false)))] ?_ ?_
    ·refine .step rfl (Qvu tabOk rfl (by simp[h5])) ?_;refine .step rfl (Qv7 rfl rfl rfl (zIA rfl rfl rfl zoy (Q0f hkj))) ?_;refine .step rfl (Qv7 rfl rfl rfl (Qv4 hΓc rfl rfl rfl rfl zsy hou hcall)) ?_;refine .step rfl (Qvu tabOk rfl (by simp_all)) ?_;exact .step rfl (Qvu tabOk rfl (by simp[h5])) .nil
    refine zM ?_;exact cInv ⟨x.binds.length - (j+1),j+1,id,by omega,⟨by omega,Q2a hno hrj (by rw[hbb,hy2];rfl),rfl⟩,Z39 rfl zFS zsy zLO rfl rfl hou⟩
  ·by_cases h9:x.op=9
   ·cases j with
    |zero=>
     have hbb:Q26 e x 0=false:=by simp[Q26,h5]
     refine zdx 36 [(2,.one (.lit (.bool false))),(17,.one (.lit (.bool true))),(20,.one (.lit (.bool false)))] ?_ ?_
     ·refine .step rfl (Qvu tabOk rfl (by simp[h5])) ?_;refine .step rfl (Qvu tabOk rfl (by simp[h9])) ?_;exact .step rfl (Qvu tabOk rfl zdy) .nil
     refine zM ?_;exact cInv ⟨x.binds.length - 1,1,id,by omega,⟨by omega,Q2a hno hrj hbb,rfl⟩,Z39 rfl zFS zsy zLO rfl rfl hou⟩
    |succ j=>
     obtain⟨a,haj⟩:=Q02 (l:=x.binds) (i:=j) zoy;have hbb:Q26 e x (j+1)=decide (a ≥ b):=by
      have e1:x.binds.getD j 0=a:=by simp[List.getD,haj]
      have e2:x.binds.getD (j+1) 0=b:=by simp[List.getD,hbj]
      unfold Q26;rw[show j+1 - 1=j from rfl,e1,e2];simp[h5,h9]
     refine zdx 36 [(2,.one (.lit (.bool false))),(17,.one (.lit (.bool true))),(20,.one (.lit (.bool true))),(26,.one (int j)),(27,.one (.box (cI a))),(32,.one (.box (cI b)))] ?_ ?_
     ·refine .step rfl (Qvu tabOk rfl (by simp[h5])) ?_;refine .step rfl (Qvu tabOk rfl (by simp[h9])) ?_;refine .step rfl (Qvu tabOk rfl (by exact decide_eq_true zoy)) ?_;refine .step rfl (Qv7 rfl rfl rfl (Qus rfl rfl rfl (.inr (.inl ⟨rfl,by omega⟩)) zI)) ?_;refine .step rfl (Qv7 rfl rfl rfl (zIA rfl rfl rfl zoy (Q0f haj))) ?_;exact .step rfl (Qv7 rfl rfl rfl (zIA rfl rfl rfl zoy (Q0f hbj))) .nil
     refine zA ?_;refine Q00.cond rfl (fun hb=>?_) (fun hb=>?_)
     ·refine zA ?_;refine Q09.fin rfl (Z7h ?_) zsy hou rfl;rw[bad (by rw[hbb];exact hb)]
     ·refine zM ?_;exact cInv ⟨x.binds.length - (j+1+1),j+1+1,id,by omega,⟨by omega,Q2a hno hrj (by rw[hbb];exact hb),rfl⟩,Z39 rfl zFS zsy zLO rfl rfl hou⟩
   ·have hbb:Q26 e x j=false:=by simp[Q26,h5,h9]
    refine zdx 36 [(2,.one (.lit (.bool false))),(17,.one (.lit (.bool false)))] ?_ ?_
    ·refine .step rfl (Qvu tabOk rfl (by simp[h5])) ?_;exact .step rfl (Qvu tabOk rfl (by simp[h9])) .nil
    refine zM ?_;exact cInv ⟨x.binds.length - (j+1),j+1,id,by omega,⟨by omega,Q2a hno hrj hbb,rfl⟩,Z39 rfl zFS zsy zLO rfl rfl hou⟩
 ·have hlt:j=x.binds.length:=by simp at hb2;omega
  subst hlt;have:(List.range x.binds.length).any (Q26 e x)=false:=by rw[Z3c];intro i hi;simp[hno i (by rw[Z5x zsy];exact hi)]
  refine zA ?_;refine Q09.fin rfl (Z7h ?_) zsy hou rfl;rw[hn,this];rfl
theorem Qu9(hΓ:GI Γ)(t:Tr)(k:Int)(hk:-1048576<=k/\k<=1048576)(ha:t.alts.length<=1048576):
  Q09 Tryz.prog Γ 147 [.one (.box (cTr t)),.one (int k)] (.one (.sl 1 ((Q48 t.op t.binds t.alts k).map cI))):=by
 intro ou;refine zwk 58 Tryz.func147 fun hou=>?_;repeat' first|refine zN ?_|(with_reducible refine oj ?_;refine Qvi rfl rfl rfl rfl (fun hb=>?_) (fun hb=>?_))|(with_reducible refine ok ?_;first|refine Qwd rfl (fun hb=>?_) (fun hb=>?_)|refine Q00.cond rfl (fun hb=>?_) (fun hb=>?_))
 all_goals try
  (
  have h1:0 < k:=by simp_all
  have h2:k<=t.alts.length:=by simp_all
  obtain⟨a,ha2⟩:=Q02 (l:=t.alts) (i:=(k - 1).toNat) zoy;refine zS (zIA rfl rfl rfl zoy (Q0f ha2)) ?_;have hb2:Q48 t.op t.binds t.alts k=a.binds:=by
   have e1:t.alts.getD (k - 1).toNat ⟨0,[]⟩=a:=by rw[Z42,ha2];rfl
   unfold Q48;rw[if_neg (by simp_all),if_pos zoy,e1]
  rw[hb2];repeat' first|refine zN ?_|(with_reducible refine oj ?_;refine Qvi rfl rfl rfl rfl (fun hb=>?_) (fun hb=>?_))|(with_reducible refine ok ?_;first|refine Qwd rfl (fun hb=>?_) (fun hb=>?_)|refine Q00.cond rfl (fun hb=>?_) (fun hb=>?_))
  exact Q09.fin rfl (Z7h rfl) zsy hou rfl)
 all_goals first
  |(
   refine Q09.fin rfl (Z7h ?_) zsy hou rfl;simp_all[Q48]
   done)
  |(
   refine Q09.fin rfl (.trans (.one (.nilS 1)) (.ofEq ?_)) zsy hou rfl;simp_all[Q48]
   done)
  |(
   refine Q09.fin rfl (.trans (.one (.nilS 1)) (.ofEq ?_)) zsy hou rfl;simp_all[Q48];intros;omega)
def Q71 (pre:List Int)(al:List Alt)(j:Nat):List Int:=pre++(al.take j).flatMap (·.binds)
theorem Q8d{a:Alt}(h:al[j]?=some a):Q71 pre al (j+1)=Q71 pre al j++a.binds:=by simp[Q71,Z5t,h,Z3u]
def Q73 (t:Tr):Nat:=t.binds.length+(t.alts.flatMap (·.binds)).length
theorem Qnj(j:Nat):(Q71 pre al j).length<=pre.length+(al.flatMap (·.binds)).length:=by
 simp only[Q71,Z4g];have:((al.take j).flatMap (·.binds)).length<=(al.flatMap (·.binds)).length:=by
  conv=>rhs;rw[←Z5u j al,Z3u,Z4g]
  omega
 omega
theorem Q7o(hΓ:GI Γ)(t:Tr)(hl:Q73 t<=4194304)(ha:t.alts.length<=1048576):
  Q09 Tryz.prog Γ 71 [.one (.box (cTr t))] (.one (.sl 1 ((Q0h t.op t.binds t.alts).map cI))):=by
 unfold Q73 at hl;intro ou;refine zwk 46 Tryz.func71 fun hou=>?_;iterate 11 (refine zO ?_)
 refine Qvr 3 3 1 rfl ?_;have he0:Q0h t.op t.binds t.alts=Q71 (if t.op=2∨t.op=4∨t.op=5 then t.binds else []) t.alts t.alts.length:=by simp[Q0h,Q71]
 obtain⟨pre,hpre⟩:∃pre,pre=(if t.op=2∨t.op=4∨t.op=5 then t.binds else []):=⟨_,rfl⟩;rw[he0,←hpre];have hpl:pre.length<=t.binds.length:=by rw[hpre];split <;> simp
 refine Qvy hΓ (α:=Unit) (fun _=>[(3,.one (.gs 1 (pre.map cI) (.l 0))),(0,.one (.box (cTr t)))])
  (fun _=>⟨1,[(0,.tok 3 1 pre.length)],ou⟩) (fun _=>True) ?_ fun _ _=>?_
 ·repeat' first|refine zN ?_|(with_reducible refine oj ?_;refine Qvi rfl rfl rfl rfl (fun hb=>?_) (fun hb=>?_))|(with_reducible refine ok ?_;first|refine Qwd rfl (fun hb=>?_) (fun hb=>?_)|refine Q00.cond rfl (fun hb=>?_) (fun hb=>?_))
  all_goals first
   |(
    have:pre=t.binds:=by simp_all
    subst this;refine AOps.app tabOk rfl rfl rfl rfl rfl rfl rfl rfl rfl (Qve _ _ _ _ _ (by rfl) zsy) (.sl _ _) rfl (by simp;show _ * 8<=_;omega) zuy ?_;repeat' first|refine zN ?_|(with_reducible refine oj ?_;refine Qvi rfl rfl rfl rfl (fun hb=>?_) (fun hb=>?_))|(with_reducible refine ok ?_;first|refine Qwd rfl (fun hb=>?_) (fun hb=>?_)|refine Q00.cond rfl (fun hb=>?_) (fun hb=>?_))
    exact cInv ⟨(),fun _=>1,trivial,Z39 rfl (Qw2 rfl rfl zsy (Q0k.consP rfl (.ofEq rfl) zsy .nil)) zsy (Q1b.cons rfl (by simp[AObj.ren];rfl) rfl zsy .nil) rfl rfl hou⟩)
   |(
    have:pre=[]:=by simp_all
    subst this;exact cInv ⟨(),id,trivial,Z39 rfl (Qw2 rfl rfl zsy (Q0k.consP rfl (.ofEq rfl) zsy .nil)) zsy zLO rfl rfl hou⟩)
 clear hpre he0;refine zA ?_;refine Qv6 hΓ (α:=Nat) (fun j=>[(36,.one (int j)),(35,.one (int (t.alts.map cAlt).length)),(34,.one (.sl 2 (t.alts.map cAlt))),(3,.one (.gs 1 ((Q71 pre t.alts j).map cI) (.l 0))),(0,.one (.box (cTr t)))])
  (fun j=>⟨1,[(0,.tok 3 1 (Q71 pre t.alts j).length)],ou⟩) (fun m j=>j<=t.alts.length/\m=t.alts.length - j) (a0:=0) (ρ:=id) ⟨by omega,rfl⟩
  (Z39 rfl (Q0k.cons rfl (.ofEq rfl) (Q0k.cons rfl (.ofEq rfl) (Q0k.consP rfl (.ofEq rfl) zsy (Qw2 (by simp[Q71];rfl) rfl zsy (Q0k.consP rfl (.ofEq rfl) zsy .nil))))) zsy (Q1b.cons rfl (by simp[AObj.ren,Q71]) rfl zsy .nil) rfl rfl hou) fun m j hj=>?_
 obtain⟨hjl,rfl⟩:=hj;refine zA ?_;refine Q00.cond rfl (fun hb2=>?_) (fun hb2=>?_)
 ·have hlt:j < t.alts.length:=by simpa using hb2
  obtain⟨a,ha2⟩:=Q02 hlt;have hbl:=Qnj (pre:=pre) (al:=t.alts) (j+1);rw[Q8d ha2]at hbl;simp only[Z4g]at hbl;refine zA ?_;refine zS (zIA rfl rfl rfl zoy (Q0f ha2)) ?_;refine zA ?_;refine AOps.app tabOk rfl rfl rfl rfl rfl rfl rfl rfl rfl (Qve _ _ _ _ _ (by rfl) zsy) (.sl _ _) rfl (by simp;show _ * 8<=_;omega) zuy ?_;refine zM ?_;exact cInv ⟨t.alts.length - (j+1),j+1,fun _=>2,by omega,⟨by omega,rfl⟩,Z39 rfl (Q0k.cons rfl (.ofEq rfl) (Q0k.cons rfl (.ofEq rfl) (Q0k.consP rfl (.ofEq rfl) zsy (Qw2 (by rw[Q8d ha2,Z4r];rfl) rfl zsy (Q0k.consP rfl (.ofEq rfl) zsy .nil))))) zsy (Q1b.cons rfl (by simp[AObj.ren,Q8d ha2];rfl) rfl zsy .nil) rfl rfl hou⟩
 ·have hlt:j=t.alts.length:=by simp at hb2;omega
  subst hlt;refine zA ?_;exact Q09.fin rfl (.one (.gsE rfl)) zsy hou rfl
end Go.Proofs.YtlmokgooijbcdaaGreatDoor
namespace Go.Abs
theorem Qxt{t:TypeId}{s:Nat}(hT:Q0t E.P E.T)(ho:o.op=.buildSlice t 0 #[])(ht:Tab.get t E.T=some ti)(hk:Nat.beq ti.kind 2=true)(hj:Tab.get ti.elem E.T=some tj)(hs:tj.size=s):
  Q01 E o fr σ (.one (.gs s [] (.l σ.n))) (σ.push (.tok ti.elem s 0)):=by
 intro F w C tmps hi hf next Q hk2
 have hsl:=(hT t ti ht).slice (Z66 hk);have hsz:=(hT _ _ hj).run_sizeOf w;have hrun:(execOp (Act.eval ⟨tmps,E.ds⟩) o).run E.P w=.ok (.value (.slice (some ⟨w.heap.size,0,none⟩) 0 0)) (w.alloc (.cells #[] ti.elem)):=by unfold execOp;simp only[ho];simp[Instr.buildSlice,run_underlying hsl,hsz,Instr.fill,newRow,Array.range_zero']
 have hno:=Quw C (some (w.heap.size,0)) (fun _=>False) hi.next;have he:Ext w C (w.alloc (.cells #[] ti.elem)) (C.tokd (some (w.heap.size,0)) (fun _=>False)):=⟨fun a ha=>Z7j _ _ _ (hi.prot a ha),fun _ h=>.inl h,fun i _ ho=>Quv C _ _ ho⟩;have hadd:Inv E.Γ F (w.alloc (.cells #[] ti.elem)) (C.tokd (some (w.heap.size,0)) (fun _=>False)) (σ.push (.tok ti.elem s 0)):=by
  refine hi.addObj (o:=.tok ti.elem s 0) (d:=.l σ.n) (σ.get_push _) he ?_ ?_ ?_ ?_ ?_ hno.1 ?_ ?_
  ·simp[Ctx.tokd,Ctx.more,St.push,hi.next]
  ·intro k hk;have:=hi.base k hk;simp;omega
  ·intro a ha;rcases ha with ha|ha
   ·have:=hi.prot a ha;simp;omega
   ·exact ha.elim
  ·intro i p hp g x hb hx;exact Q3q w _ hx
  ·intro i p hp a hb hlt ha;exact ha.resolve_right id
  ·simp only[Q1c,hno.2];refine⟨#[],heap_alloc_new w _,fun hF=>by have:=hi.base _ hF;omega,by simp,Z6b _,by simp[maxLen],fun a ha hp=>?_⟩;rcases hp with hp|hp
   ·have:=hi.prot a hp;omega
   ·exact hp.elim
  ·intro i p g hp hb hb2;simp only[AObj.block,hno.2,Z6x,Z6z]at hb2;have:=(Quf (hi.obj i p hp).2 hb).2;omega
 unfold Oper.wp;rw[hrun,Z6q];refine hk2 _ _ _ ⟨Stp.alloc hi.base _ _,he,by simp[Ctx.tokd,Ctx.more],fun a ha=>ha.imp id (fun h=>h.elim)⟩ hadd ?_;simp only[RF,R];exact⟨hno.1,.inr ⟨_,0,rfl,Z6b _,hno.2,by simp[RS]⟩⟩
theorem Qxu{id:Nat}{l:List Oper}{σ1:St}{va:FV}{oal:Oper}(hT:Q0t E.P E.T)(n al:Nat)(cs:List (Nat×FV))(hm:E.P.follows .mixedOrders=true)(hB:Q1n l n=true)(Z0h:Nat.ble (al+1) n=true)(hsp:Q3h n l=some (hd,tl))(hfb:Qvf (dsts hd) fr=some frb)
  (Z09:l[al]?=some oal) (hrun:Q0x E l.toArray l frb σ ((al,va)::cs) 0 hd []=some vs) (Qzr:Q0x E l.toArray l frb σ1 ((al,va)::cs) 0 hd []=some vs) (hfr:frOf hd vs frb=some fr') (hal:Q0b E l.toArray oal (Q0r l vs oal++frb) σ σ1 va) (hcs:Q0g E l frb σ vs cs) (Z05:Q0g E l frb σ1 vs cs) (Qz8:AOps E l.toArray tl K fr' σ1):Q00 E (.region id l.toArray true) K fr σ:=by
 obtain⟨h1,h2⟩:=Q45 hsp;subst h1;subst h2;have h3:=Qvg hfb;have h4:=Q8b hfr;have hn:n < l.length:=by simp only[Q1n,Z2w,decide_eq_true_eq]at hB;exact hB.1.1.1.1.1
 have hlast:((l.take n).zipIdx.all fun x=>x.1.after.all fun e=>!Region.binds .any e||decide (e.on < x.2))=true:=by simp only[Q1n,Z2w]at hB;exact hB.2
 refine Qvc n al vs _ hm Z0h hB rfl frb h3 (Q6m (n:=n) (va:=va) hT (fun k o hk hkn=>?_) Z09 hal hcs Z05 _ 0 [] vs rfl (fun i o hi=>?_) hrun Qzr rfl) (by rw[h4];exact Qz8)
 ·have:=Z3b.1 hlast (o,k) (by rw[Z59];exact⟨k,by rw[Z4e,Z4d hkn,hk];simp⟩);exact this
 ·have hi2:i < n:=by have:=(Z49.1 hi).1;simp at this;omega
  rw[Z4d hi2]at hi;exact⟨by simpa using hi,by omega⟩
end Go.Abs
namespace Go.Proofs.YtlmokgooijbcdaaGreatDoor
variable {Γ:List (Nat×List AC)}
theorem Q5j(l:List Int)(hl:l.length<=1048576):Q09 Tryz.prog Γ 58 [.one (.sl 1 (l.map cI))] (.one (.sl 1 (l.map cI))):=by
 intro ou;refine zwk 8 Tryz.func58 fun hou=>?_;refine zA ?_;refine Qwf rfl rfl rfl rfl Tryz.underlying32 rfl rfl fun b hb=>?_;cases b with
 |true=>
  have hz:l=[]:=by have:=hb rfl;simpa using this
  subst hz;refine zA ?_;exact Q09.fin rfl (.one (.nilS 1)) zsy hou rfl
 |false=>
  refine zA ?_;refine zS (Qxt tabOk rfl rfl rfl rfl rfl) ?_;refine zA ?_;refine AOps.app tabOk rfl rfl rfl rfl rfl rfl rfl rfl rfl (Qve _ _ _ _ _ (by rfl) zsy) (.sl _ _) rfl (by simp;show _ * 8<=_;omega) zuy ?_;refine zA ?_;exact Q09.fin rfl (.one (.gsE zsy)) zsy hou rfl
section
variable {β:Type}
def encI (enc:β->FV)(l:List (Nat×Int×β)):List (Nat×Value×FV):=l.map fun x=>(x.1,.int .i64 x.2.1,enc x.2.2)
structure IMOk (f:Int->Option β)(ck:Nat)(l:List (Nat×Int×β)):Prop where
 born:∀x∈l,x.1 < ck
 nb:(l.map (·.1)).Nodup
 look:∀k,(l.find? (fun x=>x.2.1==k)).map (·.2.2)=f k
 nk:(l.map (·.2.1)).Nodup
def setF (f:Int->Option β)(k:Int)(v:β):Int->Option β:=fun j=>if k=j then some v else f j
theorem IMOk.nil:IMOk (fun _=>none:Int->Option β) 0 []:=⟨by simp,by simp,fun k=>rfl,by simp⟩
variable (enc:β->FV)
theorem keysI(l:List (Nat×Int×β)):Qm2 (.int .i64) (encI enc l):=by intro x hx;simp only[encI,Z5a]at hx;obtain⟨y,_,rfl⟩:=hx;rfl
theorem Qkb(k:Int):Instr.sameNow (.int .i64) (.int .i64 k) (.int .i64 k)=some true:=by simp[Instr.sameNow]
theorem Qoe{j:Int}(h:k≠j):Instr.sameNow (.int .i64) (.int .i64 k) (.int .i64 j)=some false:=by simp[Instr.sameNow,h]
theorem Qph(k:Int):∀l:List (Nat×Int×β),Qch (.int .i64 k) (encI enc l)=((l.find? (fun x=>x.2.1==k)).map (·.2.2)).map enc
 |[]=>rfl
 |(b,j,t)::l=>by
  have ih:=Qph k l;simp only[encI,Z4t,Qch,Qa2,Z3s]at ih ⊢;by_cases e:j=k
  ·subst e;simp[Qkb]
  ·rw[Qoe (Z6o e),beq_eq_false_iff_ne.2 e];exact ih
theorem Ql2{f:Int->Option β}{l:List (Nat×Int×β)}(h:IMOk f ck l)(k:Int):Qch (.int .i64 k) (encI enc l)=(f k).map enc:=by rw[Qph,h.look]
def repl (k:Int)(v:β)(l:List (Nat×Int×β)):List (Nat×Int×β):=l.map fun x=>if x.2.1=k then (x.1,k,v)else x
theorem mPut_I(k:Int)(v:β)(ck:Nat):∀l:List (Nat×Int×β),(l.map (·.2.1)).Nodup->mPut (.int .i64 k) (enc v) ck (encI enc l)=if k∈l.map (·.2.1)then (encI enc (repl k v l),ck)else (encI enc (l++[(ck,k,v)]),ck+1)
 |[],_=>rfl
 |(b,j,t)::l,hn=>by
  simp only[Z4t,Z5l]at hn;have ih:=mPut_I k v ck l hn.2;simp only[encI,Z4t,mPut,Qa2,Z3g]at ih ⊢;by_cases e:j=k
  ·subst e;rw[Qkb,if_pos zsy];have:repl j v l=l:=by unfold repl;rw[Z4s (g:=id),Z4v];intro x hx;rw[if_neg];rfl;rintro e;exact hn.1 (e▸Z5b hx)
   have h2:repl j v ((b,j,t)::l)=(b,j,v)::l:=by
    have:repl j v ((b,j,t)::l)=(b,j,v)::repl j v l:=by simp[repl]
    rw[this];congr 1
   rw[h2];rfl
  ·rw[Qoe (Z6o e)];simp only[ih];by_cases hm:k∈l.map (·.2.1)
   ·rw[if_pos hm,if_pos (by simp[hm])];have h2:repl k v ((b,j,t)::l)=(b,j,t)::repl k v l:=by simp[repl,e]
    rw[h2];rfl
   ·rw[if_neg hm,if_neg (by simp only[Z53,not_or];exact⟨Z6o e,hm⟩)]
theorem IMOk.put{f:Int->Option β}{l:List (Nat×Int×β)}(h:IMOk f ck l)(k:Int)(v:β):∃ck' l',mPut (.int .i64 k) (enc v) ck (encI enc l)=(encI enc l',ck')/\IMOk (setF f k v) ck' l':=by
 rw[mPut_I enc k v ck l h.nk];by_cases hm:k∈l.map (·.2.1)
 ·rw[if_pos hm];refine⟨_,_,rfl,?_,?_,fun j=>?_,?_⟩
  ·intro x hx;obtain⟨y,hy,rfl⟩:=Z5a.1 hx;have:=h.born y hy;split <;> exact this
  ·have:(repl k v l).map (·.1)=l.map (·.1):=by simp only[repl,Z4w];refine Z4s fun x _=>?_;simp only[Function.comp];split <;> rfl
   rw[this];exact h.nb
  ·have key:∀l:List (Nat×Int×β),k∈l.map (·.2.1)->((repl k v l).find? (fun x=>x.2.1==j)).map (·.2.2)=if k=j then some v else (l.find? (fun x=>x.2.1==j)).map (·.2.2):=by
    intro l
    induction l with
    |nil=>intro h;simp at h
    |cons y l ih=>
     intro hm;obtain⟨b,i,t⟩:=y;by_cases e:i=k
     ·subst e;have h2:repl i v ((b,i,t)::l)=(b,i,v)::repl i v l:=by simp[repl]
      rw[h2,Z3s,Z3s];by_cases e2:i=j
      ·subst e2;simp
      ·simp only[beq_eq_false_iff_ne.2 e2,if_neg e2];by_cases hm2:i∈l.map (·.2.1)
       ·rw[ih hm2,if_neg e2]
       ·have:repl i v l=l:=by unfold repl;rw[Z4s (g:=id),Z4v];intro x hx;rw[if_neg];rfl;rintro e;exact hm2 (e▸Z5b hx)
        rw[this]
     ·have h2:repl k v ((b,i,t)::l)=(b,i,t)::repl k v l:=by simp[repl,e]
      have hm2:k∈l.map (·.2.1):=by
       rcases Z53.1 hm with h3|h3
       ·exact absurd h3.symm e
       ·exact h3
      rw[h2,Z3s,Z3s];by_cases e2:i=j
      ·subst e2;simp[Z6o e]
      ·simp only[beq_eq_false_iff_ne.2 e2];exact ih hm2
   rw[key l hm];unfold setF;rw[h.look]
  ·have:(repl k v l).map (·.2.1)=l.map (·.2.1):=by
    simp only[repl,Z4w];refine Z4s fun x _=>?_;simp only[Function.comp];split
    ·rename_i e;exact e.symm
    ·rfl
   rw[this];exact h.nk
 ·rw[if_neg hm];refine⟨_,_,rfl,?_,?_,fun j=>?_,?_⟩
  ·intro x hx;rcases Z50.1 hx with hx|hx
   ·have:=h.born x hx;omega
   ·simp at hx;subst hx;exact Z6f _
  ·rw[Z4r,Z5k];refine⟨h.nb,by simp,fun a ha b hb e=>?_⟩;simp at hb;obtain⟨x,hx,rfl⟩:=Z5a.1 ha;have:=h.born x hx;omega
  ·rw[List.find?_append];unfold setF;by_cases e:k=j
   ·subst e;rw[if_pos rfl,Z3t.2 (fun x hx=>by simp;rintro e;exact hm (e▸Z5b hx))];simp
   ·rw[if_neg e,←h.look j];have:((k:Int)==j)=false:=beq_eq_false_iff_ne.2 e;cases hf:l.find? (fun x=>x.2.1==j) with
    |none=>simp[this]
    |some x=>simp
  ·rw[Z4r,Z5k];refine⟨h.nk,by simp,fun a ha b hb e=>?_⟩;simp at hb;subst hb;exact hm (e▸ha)
theorem Qft(henc:∀b p,(enc b).ids p)(p:Abs.Id->Prop)(ck:Nat)(l:List (Nat×Int×β)):AObj.ids p (.map ck (encI enc l)):=by intro x hx;simp only[encI,Z5a]at hx;obtain⟨y,_,rfl⟩:=hx;exact henc _ _
theorem Qxv{t kt:TypeId}{i y:Operand}{m:Abs.Id}{l:List (Nat×Int×β)}{f:Int->Option β}{v:β}(hgd:o.guard=none)(hd:o.dst=none)(ho:o.op=.mapUpdate t x i y)(hm:E.P.underlying t=some (.map kt et))(hk:E.P.underlying kt=some (.int .i64))
  (hx:Q08 E.Γ fr x=some (.one (.mp m))) (hg:σ.get m=some (.map ck (encI enc l))) (hu:Q08 E.Γ fr i=some (.one (int k))) (hy:Q08 E.Γ fr y=some (enc v)) (hf:IMOk f ck l)
  (h:∀ck' l',IMOk (setF f k v) ck' l'->AOps E ops rest K fr (σ.set m (.map ck' (encI enc l')))):AOps E ops (o::rest) K fr σ:=by
 obtain⟨ck',l',h1,h2⟩:=hf.put enc k v;have hs:=Q01.mapUpdate (σ:=σ) ho hm hk hx hg hu hy rfl (keysI enc l);rw[h1]at hs;have hrest:=h ck' l' h2;exact AOps.step hgd (by rw[hd];rfl) hs (by rw[hd];exact hrest)
theorem Qxw{t kt:TypeId}{i:Operand}{m:Abs.Id}{l:List (Nat×Int×β)}{f:Int->Option β}{zv:Value}{z v:FV}{cm:Bool}(ho:o.op=.lookup t x i cm)(hm:E.P.underlying t=some (.map kt et))(hk:E.P.underlying kt=some (.int .i64))
  (hx:Q08 E.Γ fr x=some (.one (.mp m))) (hg:σ.get m=some (.map ck (encI enc l))) (hu:Q08 E.Γ fr i=some (.one (int k))) (hzv:(E.P.info? et).map (·.zero)=some (some zv)) (hz:∀w C,RF w C z zv) (hf:IMOk f ck l) (hv:(match f k with|some b=>enc b|none=>z)=v):
  Q01 E o fr σ (if cm=true then .tup [v,.one (.lit (.bool (f k).isSome))]else v) σ:=by
 have h:=Qw7 (z:=z) (v:=v) ho hm hk hx hg hu rfl (keysI enc l) hzv hz (by rw[Ql2 enc hf,←hv];cases f k <;> rfl);rw[Ql2 enc hf]at h;have e:((f k).map enc).isSome=(f k).isSome:=by cases f k <;> rfl
 rw[e]at h;exact h
end
def eU:Unit->FV:=fun _=>.agg []
def eN:Int->FV:=fun n=>.one (int n)
theorem eU_ids(b:Unit)(p:Abs.Id->Prop):(eU b).ids p:=by simp[eU]
theorem eN_ids(b:Int)(p:Abs.Id->Prop):(eN b).ids p:=by simp[eN]
@[simp] theorem Qlf (p:Abs.Id->Prop) (ck:Nat) (l:List (Nat×Int×Unit)):AObj.ids p (.map ck (encI eU l)):=Qft eU eU_ids p ck l
@[simp] theorem Qfr (p:Abs.Id->Prop) (ck:Nat) (l:List (Nat×Int×Int)):AObj.ids p (.map ck (encI eN l)):=Qft eN eN_ids p ck l
def hasE {β:Type}(l:List (Nat×Int×β))(a:Nat)(k:Value)(v:β):Prop:=∃x∈l,x.1=a/\.int .i64 x.2.1=k/\x.2.2=v
@[simp] theorem Ql1 (a:Nat) (k:Value) (b:FV) (l:List (Nat×Int×Unit)):(a,k,b)∈encI eU l↔b=.agg []/\hasE l a k ():=by simp only[encI,eU,Z5a,Z70];exact⟨fun ⟨x,h1,h2,h3,h4⟩=>⟨h4.symm,⟨x,h1,h2,h3,rfl⟩⟩,fun ⟨h4,⟨x,h1,h2,h3,_⟩⟩=>⟨x,h1,h2,h3,h4.symm⟩⟩
@[simp] theorem mem_encN (a:Nat) (k:Value) (b:FV) (l:List (Nat×Int×Int)):(a,k,b)∈encI eN l↔∃v,hasE l a k v/\.one (int v)=b:=by simp only[encI,eN,Z5a,Z70];exact⟨fun ⟨x,h1,h2,h3,h4⟩=>⟨_,⟨x,h1,h2,h3,rfl⟩,h4⟩,fun ⟨v,⟨x,h1,h2,h3,h5⟩,h4⟩=>⟨x,h1,h2,h3,by rw[h5];exact h4⟩⟩
@[simp] theorem Qf9 (ρ:Nat->Nat) (ck:Nat) (l:List (Nat×Int×Unit)):AObj.ren ρ (.map ck (encI eU l))=.map ck (encI eU l):=Z2f _ _ (Qlf _ ck l)
@[simp] theorem ren_mapN (ρ:Nat->Nat) (ck:Nat) (l:List (Nat×Int×Int)):AObj.ren ρ (.map ck (encI eN l))=.map ck (encI eN l):=Z2f _ _ (Qfr _ ck l)
theorem zeroU(w:World)(C:Ctx):RF w C (.agg []) (.agg #[]):=⟨[],rfl,rfl⟩
theorem Qnp(w:World)(C:Ctx):RF w C (.one (int 0)) (.int .i64 0):=by simp[RF,R,Value.oneCell']
@[simp] theorem Qfs (p:Abs.Id->Prop):∀l:List Int,idsL p (l.map int)
 |[]=>by simp
 |n::l=>by simp[Qfs p l]
@[simp] theorem ids_intset (p:Abs.Id->Prop) (l:List Int) (i:Nat) (v:Int):idsL p ((l.map int).set i (int v)):=by rw[←List.map_set];exact Qfs p _
@[simp] theorem Qld (p:Abs.Id->Prop) (v:Value):∀n:Nat,idsL p (List.replicate n (.lit v))
 |0=>by simp
 |n+1=>by simp[Z5p,Qld p v n]
theorem idxI{t:TypeId}{i:Operand}{k:IntKind}{j:Abs.Id}{len cap:Nat}{n:Nat}(hT:Q0t E.P E.T)(ho:o.op=.indexAddr t x i)(ht:Tab.get t E.T=some ti)(hk:Nat.beq ti.kind 2=true)(hj:Tab.get ti.elem E.T=some tj)(hs:Nat.beq tj.size 1=true)
  (hx:Q08 E.Γ fr x=some (.one (.arr j 1 0 len cap))) (hi':Q08 E.Γ fr i=some (.one (.lit (.int k n)))) (hn:n < len):Q01 E o fr σ (.one (.ptr j n)) σ:=by
 have h:=Qw4 (σ:=σ) hT ho ht hk hj hs hx hi' hn;simpa using h
theorem Qmo{t:TypeId}{j:Abs.Id}{n:Nat}{p:List Int}(hT:Q0t E.P E.T)(ho:o.op=.load t x)(ht:Tab.get t E.T=some ti)(ha:ti.agg=false)(hs:Nat.beq ti.size 1=true)(hx:Q08 E.Γ fr x=some (.one (.ptr j n)))
  (hg:σ.get j=some (.cells (p.map int))) (hc:p[n]?=some v):Q01 E o fr σ (.one (int v)) σ:=
 Qw5 hT ho ht ha hs hx hg (by simp[hc])
theorem Qnz{t:TypeId}{y:Operand}{j:Abs.Id}{n:Nat}{p:List Int}(hT:Q0t E.P E.T)(hgd:o.guard=none)(hd:o.dst=none)(ho:o.op=.store t x y)(ht:Tab.get t E.T=some ti)(hs:Nat.beq ti.size 1=true)(hx:Q08 E.Γ fr x=some (.one (.ptr j n)))
  (hy:Q08 E.Γ fr y=some (.one (int v))) (hg:σ.get j=some (.cells (p.map int))) (hlt:n < p.length) (h:AOps E ops rest K fr (σ.set j (.cells ((p.set n v).map int)))):AOps E ops (o::rest) K fr σ:=by
 refine Z2m hT hgd hd ho ht hs hx hy hg (by simpa using hlt) ?_;rw[←List.map_set];exact h
inductive Two (i j k:Nat)(A0 A1:FV)(σ0 σ1 σ2:St):(Nat->Option FV)->St->Prop
 |n:Two i j k A0 A1 σ0 σ1 σ2 (fun _=>none) σ0
 |a:Two i j k A0 A1 σ0 σ1 σ2 (updV (fun _=>none) i A0) σ1
 |b:Two i j k A0 A1 σ0 σ1 σ2 (updV (fun _=>none) j A0) σ1
 |ab:Two i j k A0 A1 σ0 σ1 σ2 (updV (updV (fun _=>none) i A0) j A1) σ2
 |ac:Two i j k A0 A1 σ0 σ1 σ2 (updV (updV (fun _=>none) i A0) k A0) σ1
 |ba:Two i j k A0 A1 σ0 σ1 σ2 (updV (updV (fun _=>none) j A0) i A1) σ2
 |abc:Two i j k A0 A1 σ0 σ1 σ2 (updV (updV (updV (fun _=>none) i A0) j A1) k A0) σ2
 |acb:Two i j k A0 A1 σ0 σ1 σ2 (updV (updV (updV (fun _=>none) i A0) k A0) j A1) σ2
 |bac:Two i j k A0 A1 σ0 σ1 σ2 (updV (updV (updV (fun _=>none) j A0) i A1) k A1) σ2
def z0 (e:List Ex):List Int:=List.replicate e.length 0
def Qf6 (e:List Ex)(j:Nat):Option (List Int×List Int):=(e.zipIdx.take j).foldl Q2o (some (z0 e,z0 e))
theorem Qgp(e:List Ex):Qf6 e e.length=Q6g e:=by unfold Qf6 Q6g z0;rw[Z5x zsy]
theorem zip_at{x:Ex}(h:e[j]?=some x):e.zipIdx[j]?=some (x,j):=by simp[Z4e,h]
theorem Qdo{x:Ex}(h:e[j]?=some x):Qf6 e (j+1)=Q2o (Qf6 e j) (x,j):=by unfold Qf6;rw[Z5t,zip_at h,Z3y];rfl
theorem Qof(h:Qf6 e j=none):Q6g e=none:=by rw[←Qgp];unfold Qf6 at h ⊢;rw[Z5x (l:=e.zipIdx) zsy,←Z5u j e.zipIdx,Z3y,h,Q8u]
theorem Qcn(h:ks[i]?=some k):(ks.take (i+1)).foldl (Q2c j) s=Q2c j ((ks.take i).foldl (Q2c j) s) k:=by rw[Z5t,h,Z3y];rfl
theorem Qmr(h:(ks.take i).foldl (Q2c j) s=none):ks.foldl (Q2c j) s=none:=by rw[←Z5u i ks,Z3y,h,Q5c]
theorem Q9y{l:List Int}{a b:Int}(h:∀x∈l,a<=x/\x<=b)(hv:a<=v/\v<=b):∀x∈l.set i v,a<=x/\x<=b:=fun x hx=>by
 rcases Z5e hx with hx|rfl
 ·exact h x hx
 ·exact hv
theorem Qa6{l:List Int}(h:l[i]?=some v):l.getD i 0=v:=by rw[Z42,h];rfl
theorem Qgi(hΓ:GI Γ)(e:List Ex)(he:okE e):Q09 Tryz.prog Γ 84 [.one (.sl 5 (e.map cEx))] (.one (int (Q2p e))):=by
 have hel:=he.l;intro ou;refine zwk 93 Tryz.func84 fun hou=>?_;refine zA ?_;refine Q00.cond rfl (fun hb=>?_) (fun hb=>?_)
 ·refine zA ?_;refine Q09.fin rfl (Z7h ?_) zsy hou rfl;have:4096 < e.length:=by simp at hb;omega
  simp[Q2p,this]
 have h1:e.length<=4096:=by simp at hb;omega
 clear hb;refine zA ?_;refine Q00.cond rfl (fun hb=>?_) (fun hb=>?_)
 ·refine zA ?_;refine Q09.fin rfl (Z7h ?_) zsy hou rfl;have:e.length=0:=by simpa using hb
  simp[Q2p,this]
 have h2:e.length≠0:=by simpa using hb
 clear hb;have hn:Q2p e=(match Q6g e with|none=>3|some (d,p)=>if (List.range e.length).any (Q35 e.length p)=true then 3 else if 400 < d.getD (e.length - 1) 0 then 2 else 0):=by unfold Q2p;rw[if_neg zoy,if_neg h2];rfl
 refine zA ?_;refine Qvy hΓ (α:=Unit) (fun _=>[(4,.one (.arr (.l 1) 1 0 (e.map cEx).length (e.map cEx).length)),(3,.one (.arr (.l 0) 1 0 (e.map cEx).length (e.map cEx).length)),(0,.one (.sl 5 (e.map cEx)))])
  (fun _=>⟨2,[(1,.cells ((z0 e).map int)),(0,.cells ((z0 e).map int))],ou⟩) (fun _=>True) ?_ fun _ _=>?_
 ·have hz:(z0 e).map int=List.replicate (e.map cEx).length (.lit (.int .i64 0)):=by simp[z0]
  rw[hz];have hb:ti3.bytes * (e.map cEx).length<=281474976710656:=by simp;show 8 * _<=_;omega
  have hb2:(e.map cEx).length<=281474976710656:=by simp;omega
  refine Qwh 7 [2,5,6] [.one (.sl 5 (e.map cEx)),.one (int (e.map cEx).length),.bot,.one (.sl 5 (e.map cEx)),.one (int (e.map cEx).length),.bot,.bot]
   (Two 2 5 6 (.one (.arr (.l 0) 1 0 (e.map cEx).length (e.map cEx).length)) (.one (.arr (.l 1) 1 0 (e.map cEx).length (e.map cEx).length)) ⟨0,[],ou⟩ ⟨1,[(0,.cells (List.replicate (e.map cEx).length (.lit (.int .i64 0))))],ou⟩ ⟨2,[(1,.cells (List.replicate (e.map cEx).length (.lit (.int .i64 0)))),(0,.cells (List.replicate (e.map cEx).length (.lit (.int .i64 0))))],ou⟩)
   follows zky rfl rfl .n ?_ ?_ ?_ ?_
  ·intro f σ h i hi;have:2≠i/\5≠i/\6≠i:=⟨(by rintro rfl;cases hi),(by rintro rfl;cases hi),(by rintro rfl;cases hi)⟩;cases h <;> simp[updV,this]
  ·intro i o hi hS hlo
   match i,hi with
   |0,_=>cases hlo;exact⟨_,rfl,rfl,rfl,by kernel_rfl,fun f σ _=>Q0b.auto tabOk rfl⟩
   |1,_=>cases hlo;exact⟨_,rfl,rfl,rfl,by kernel_rfl,fun f σ _=>Q0b.auto tabOk rfl⟩
   |2,_=>cases hS
   |3,_=>cases hlo;exact⟨_,rfl,rfl,rfl,by kernel_rfl,fun f σ _=>Q0b.auto tabOk rfl⟩
   |4,_=>cases hlo;exact⟨_,rfl,rfl,rfl,by kernel_rfl,fun f σ _=>Q0b.auto tabOk rfl⟩
   |5,_=>cases hS
   |6,_=>cases hS
  ·intro f σ i o h hS hlo hfi Qzq;have hi:i=2∨i=5∨i=6:=by simp only[List.any_cons,List.any_nil,Bool.or_false,Z34]at hS;rcases hS with h|h|h <;> have:=Z66 h <;> omega
   rcases hi with rfl|rfl|rfl <;> cases hlo
   ·cases h with
    |n=>exact⟨rfl,rfl,_,_,Q0b.plain rfl (Qw3 (σ:=⟨0,[],ou⟩) tabOk rfl rfl rfl rfl rfl rfl rfl rfl hb hb2),.a⟩
    |b=>exact⟨rfl,rfl,_,_,Q0b.plain rfl (Qw3 (σ:=⟨1,[(0,.cells (List.replicate (e.map cEx).length (.lit (.int .i64 0))))],ou⟩) tabOk rfl rfl rfl rfl rfl rfl rfl rfl hb hb2),.ba⟩
    |_=>cases hfi
   ·cases h with
    |n=>exact⟨rfl,rfl,_,_,Q0b.plain rfl (Qw3 (σ:=⟨0,[],ou⟩) tabOk rfl rfl rfl rfl rfl rfl rfl rfl hb hb2),.b⟩
    |a=>exact⟨rfl,rfl,_,_,Q0b.plain rfl (Qw3 (σ:=⟨1,[(0,.cells (List.replicate (e.map cEx).length (.lit (.int .i64 0))))],ou⟩) tabOk rfl rfl rfl rfl rfl rfl rfl rfl hb hb2),.ab⟩
    |ac=>exact⟨rfl,rfl,_,_,Q0b.plain rfl (Qw3 (σ:=⟨1,[(0,.cells (List.replicate (e.map cEx).length (.lit (.int .i64 0))))],ou⟩) tabOk rfl rfl rfl rfl rfl rfl rfl rfl hb hb2),.acb⟩
    |_=>cases hfi
   ·cases h with
    |a=>exact⟨rfl,rfl,_,_,Q0b.auto tabOk rfl,.ac⟩
    |ab=>exact⟨rfl,rfl,_,_,Q0b.auto tabOk rfl,.abc⟩
    |ba=>exact⟨rfl,rfl,_,_,Q0b.auto tabOk rfl,.bac⟩
    |n=>exact absurd (Qzq _ (Z55 ..) rfl rfl) zsy
    |b=>exact absurd (Qzq _ (Z55 ..) rfl rfl) (by simp[updV])
    |_=>cases hfi
  ·intro f σ h hall;have h2:=hall 2 zsy zoy;have h5:=hall 5 zsy zoy;have h6:=hall 6 zsy zoy;cases h with
   |abc=>
    refine zA ?_;exact cInv ⟨(),id,trivial,Z39 rfl zFS zsy zLO rfl rfl hou⟩
   |acb=>
    refine zA ?_;exact cInv ⟨(),id,trivial,Z39 rfl zFS zsy zLO rfl rfl hou⟩
   |bac=>
    refine zA ?_;exact cInv ⟨(),fun k=>if k=0 then 1 else 0,trivial,Z39 rfl zFS zsy zLO rfl rfl hou⟩
   |n=>cases h2
   |a=>cases h5
   |b=>cases h2
   |ab=>cases h6
   |ac=>cases h5
   |ba=>cases h6
 refine zA ?_;refine Qv6 hΓ (α:=Nat×List Int×List Int) (fun a=>[(25,.one (int a.1)),(24,.one (int (e.map cEx).length)),(23,.one (.sl 5 (e.map cEx))),(4,.one (.arr (.l 1) 1 0 (e.map cEx).length (e.map cEx).length)),(3,.one (.arr (.l 0) 1 0 (e.map cEx).length (e.map cEx).length)),(0,.one (.sl 5 (e.map cEx)))])
  (fun a=>⟨2,[(1,.cells (a.2.2.map int)),(0,.cells (a.2.1.map int))],ou⟩)
  (fun m a=>a.1<=e.length/\Qf6 e a.1=some (a.2.1,a.2.2)/\(a.2.1.length=e.length/\a.2.2.length=e.length)/\(∀v∈a.2.1,0<=v/\v<=(a.1:Int))/\(∀v∈a.2.2,0<=v/\v<=(a.1:Int) * 1048576)/\m=e.length - a.1)
  (a0:=(0,z0 e,z0 e)) (ρ:=id) ⟨by omega,rfl,⟨by simp[z0],by simp[z0]⟩,by simp[z0],by simp[z0],rfl⟩ (Z39 rfl zFS zsy zLO rfl rfl hou) fun m a hj=>?_
 obtain⟨j,d,p⟩:=a;obtain⟨hjl,hrun,⟨hdl,hpl⟩,hdb,hpb,rfl⟩:=hj;simp only at hjl hrun hdl hpl hdb hpb;refine zA ?_;refine Q00.cond rfl (fun hb2=>?_) (fun hb2=>?_)
 ·have hlt:j < e.length:=by simpa using hb2
  obtain⟨x,hx⟩:=Q02 hlt;have hxo:=he.x x (Z5c hx);have hxk:=hxo.k;refine zA ?_;refine zS (zIA rfl rfl rfl zoy (Q0f hx)) ?_;refine zA ?_;refine Qv6 hΓ (α:=Nat×List Int×List Int) (fun a=>[(33,.one (int a.1)),(32,.one (int (x.kids.map cI).length)),(31,.one (.sl 1 (x.kids.map cI))),(5,.one (int j)),(25,.one (int j)),(24,.one (int (e.map cEx).length)),(23,.one (.sl 5 (e.map cEx))),(4,.one (.arr (.l 1) 1 0 (e.map cEx).length (e.map cEx).length)),(3,.one (.arr (.l 0) 1 0 (e.map cEx).length (e.map cEx).length)),(0,.one (.sl 5 (e.map cEx)))])
   (fun a=>⟨2,[(1,.cells (a.2.2.map int)),(0,.cells (a.2.1.map int))],ou⟩)
   (fun m a=>a.1<=x.kids.length/\(x.kids.take a.1).foldl (Q2c j) (some (d,p))=some (a.2.1,a.2.2)/\(a.2.1.length=e.length/\a.2.2.length=e.length)/\(∀v∈a.2.1,0<=v/\v<=(j:Int))/\(∀v∈a.2.2,0<=v/\v<=(j:Int) * 1048576+a.1)/\m=x.kids.length - a.1)
   (a0:=(0,d,p)) (ρ:=id) ⟨by omega,rfl,⟨hdl,hpl⟩,hdb,fun v hv=>by have:=hpb v hv;show 0<=v/\v<=(j:Int) * 1048576+((0:Nat):Int);omega,rfl⟩ (Z39 rfl zFS zsy zLO rfl rfl hou) fun m a hi=>?_
  obtain⟨i,d',p'⟩:=a;obtain⟨hil,hki,⟨hdl',Qzo⟩,hdb',hpb',rfl⟩:=hi;simp only at hil hki hdl' Qzo hdb' hpb';obtain⟨dj,hdj⟩:=Q02 (l:=d') (i:=j) zoy;have hdjb:=hdb' dj (Z5c hdj);refine zA ?_;refine Q00.cond rfl (fun hb3=>?_) (fun hb3=>?_)
  ·have Qz9:i < x.kids.length:=by simpa using hb3
   obtain⟨k,hk⟩:=Q02 Qz9;have bad:(k < 0∨(j:Int)<=k)->Q2p e=3:=fun h=>by
    have h1:(x.kids.take (i+1)).foldl (Q2c j) (some (d,p))=none:=by rw[Qcn hk,hki];simp only[Q2c,Z6s];rw[if_pos h]
    have h2:=Qmr h1;have h3:Qf6 e (j+1)=none:=by rw[Qdo hx,hrun];simp only[Q2o];rw[h2];rfl
    rw[hn,Qof h3]
   refine zA ?_;refine zS (zIA rfl rfl rfl zoy (Q0f hk)) ?_;by_cases hkk:k < 0∨(j:Int)<=k
   ·repeat' first|refine zN ?_|(with_reducible refine oj ?_;refine Qvi rfl rfl rfl rfl (fun hb=>?_) (fun hb=>?_))|(with_reducible refine ok ?_;first|refine Qwd rfl (fun hb=>?_) (fun hb=>?_)|refine Q00.cond rfl (fun hb=>?_) (fun hb=>?_))
    all_goals first
     |(
      refine Q09.fin rfl (Z7h ?_) zsy hou rfl;rw[bad hkk]
      done)
     |(exfalso;simp only[decide_eq_false_iff_not,decide_eq_true_eq]at *;omega)
   ·obtain⟨k,rfl⟩:∃k':Nat,k=k':=⟨k.toNat,by omega⟩;have hkj:k < j:=by omega
    obtain⟨pk,hpk⟩:=Q02 (l:=p') (i:=k) zoy;obtain⟨dk,hdk⟩:=Q02 (l:=d') (i:=k) zoy;have hpkb:=hpb' pk (Z5c hpk);have hdkb:=hdb' dk (Z5c hdk);repeat' first|refine zN ?_|(with_reducible refine oj ?_;refine Qvi rfl rfl rfl rfl (fun hb=>?_) (fun hb=>?_))|(with_reducible refine ok ?_;first|refine Qwd rfl (fun hb=>?_) (fun hb=>?_)|refine Q00.cond rfl (fun hb=>?_) (fun hb=>?_))
    all_goals first
     |(exfalso;simp at hb;done)
     |(exfalso;simp at hb;omega)
     |skip
    refine zS (idxI tabOk rfl rfl rfl rfl rfl rfl rfl zuy) ?_;refine zS (Qmo tabOk rfl rfl rfl rfl rfl rfl hpk) ?_;refine zS (Qus rfl rfl rfl (.inl ⟨rfl,rfl⟩) zI) ?_;refine zS (idxI tabOk rfl rfl rfl rfl rfl rfl rfl zuy) ?_;refine Qnz tabOk rfl rfl rfl rfl rfl rfl rfl rfl (show k < p'.length by omega) ?_;refine zA ?_;refine zdx 11 [(4,.one (.ptr (.l 0) j)),(5,.one (int dj)),(8,.one (.ptr (.l 0) k)),(9,.one (int dk)),(10,.one (int (if dk > dj then dk else dj)))] ?_ ?_
    ·refine .step rfl (zHP (idxI tabOk rfl rfl rfl rfl rfl rfl rfl zuy)) ?_;refine .step rfl (zHP (Qmo tabOk rfl rfl rfl rfl rfl rfl hdj)) ?_;refine .step rfl (zHP (idxI tabOk rfl rfl rfl rfl rfl rfl rfl zuy)) ?_;refine .step rfl (zHP (Qmo tabOk rfl rfl rfl rfl rfl rfl hdk)) ?_;exact .step rfl (zHP (Q01.max2 (t:=3) (ty:=3) rfl rfl rfl)) .nil
    refine zA ?_;refine zS (idxI tabOk rfl rfl rfl rfl rfl rfl rfl zuy) ?_;refine Qnz tabOk rfl rfl rfl rfl rfl rfl rfl rfl (show j < d'.length by omega) ?_;refine zM ?_;refine cInv ⟨x.kids.length - (i+1),(i+1,d'.set j (if dk > dj then dk else dj),p'.set k (pk+1)),id,by omega,⟨by omega,?_,⟨by simp[hdl'],by simp[Qzo]⟩,Q9y hdb' (by split <;> omega),fun v hv=>?_,rfl⟩,Z39 rfl zFS zsy zLO rfl rfl hou⟩
    ·rw[Qcn hk,hki];simp only[Q2c,Z6s,Z38,Qa6 hdj,Qa6 hdk,Qa6 hpk];rw[if_neg zoy]
    ·have:=Q9y (a:=0) (b:=(j:Int) * 1048576+(i+1:Nat)) (fun v hv=>by have:=hpb' v hv;omega) (show (0:Int)<=pk+1/\pk+1<=(j:Int) * 1048576+(i+1:Nat) by omega) v hv;exact this
  ·have Qz9:i=x.kids.length:=by simp at hb3;omega
   subst Qz9;rw[Z5w]at hki;refine zA ?_;refine zS (idxI tabOk rfl rfl rfl rfl rfl rfl rfl zuy) ?_;refine zS (Qmo tabOk rfl rfl rfl rfl rfl rfl hdj) ?_;refine zS (Qus rfl rfl rfl (.inl ⟨rfl,rfl⟩) zI) ?_;refine zS (idxI tabOk rfl rfl rfl rfl rfl rfl rfl zuy) ?_;refine Qnz tabOk rfl rfl rfl rfl rfl rfl rfl rfl (show j < d'.length by omega) ?_;refine zM ?_;refine cInv ⟨e.length - (j+1),(j+1,d'.set j (dj+1),p'),id,by omega,⟨by omega,?_,⟨by simp[hdl'],Qzo⟩,?_,fun v hv=>?_,rfl⟩,Z39 rfl zFS zsy zLO rfl rfl hou⟩
   ·rw[Qdo hx,hrun];simp only[Q2o,hki,Z6x,Qa6 hdj]
   ·exact Q9y (fun v hv=>by have:=hdb' v hv;simp only;omega) (by simp only;omega)
   ·have:=hpb' v hv;simp only;omega
 ·have hlt:j=e.length:=by simp at hb2;omega
  subst hlt;rw[Qgp]at hrun;rw[hrun]at hn;simp only at hn;obtain⟨N,hN⟩:∃N,e.length=N+1:=⟨e.length - 1,by omega⟩;refine zA ?_;refine Qv6 hΓ (α:=Nat) (fun i=>[(72,.one (int i)),(71,.one (int (e.map cEx).length)),(70,.one (.arr (.l 1) 1 0 (e.map cEx).length (e.map cEx).length)),(4,.one (.arr (.l 1) 1 0 (e.map cEx).length (e.map cEx).length)),(3,.one (.arr (.l 0) 1 0 (e.map cEx).length (e.map cEx).length)),(0,.one (.sl 5 (e.map cEx)))])
   (fun i=>⟨2,[(1,.cells (p.map int)),(0,.cells (d.map int))],ou⟩) (fun m i=>i<=e.length/\(∀q∈(List.range e.length).take i,Q35 e.length p q=false)/\m=e.length - i) (a0:=0) (ρ:=id) ⟨by omega,by simp,rfl⟩ (Z39 rfl zFS zsy zLO rfl rfl hou) fun m i hi=>?_
  obtain⟨hil,hno,rfl⟩:=hi;refine zA ?_;refine Q00.cond rfl (fun hb3=>?_) (fun hb3=>?_)
  ·have Qz9:i < e.length:=by simpa using hb3
   have hri:(List.range e.length)[i]?=some i:=by simp[Qz9]
   obtain⟨v,hv⟩:=Q02 (l:=p) (i:=i) zoy;have hod:Q35 e.length p i=!((v==1)==decide ((i:Int) < (e.length:Int) - 1)):=by unfold Q35;rw[Qa6 hv]
   refine zA ?_;refine zS (idxI tabOk rfl rfl rfl rfl rfl rfl rfl zuy) ?_;refine zS (Qmo tabOk rfl rfl rfl rfl rfl rfl hv) ?_;refine zM ?_;refine Q00.cond rfl (fun hb4=>?_) (fun hb4=>?_)
   ·refine zA ?_;refine Q09.fin rfl (Z7h ?_) zsy hou rfl;rw[hn,if_pos (Z3d.2 ⟨i,by simp[Qz9],by rw[hod];simpa using hb4⟩)]
   ·refine zM ?_;exact cInv ⟨e.length - (i+1),i+1,id,by omega,⟨by omega,Q2a hno hri (by rw[hod];simpa using hb4),rfl⟩,Z39 rfl zFS zsy zLO rfl rfl hou⟩
  ·have Qz9:i=e.length:=by simp at hb3;omega
   have hany:¬(List.range e.length).any (Q35 e.length p)=true:=by rw[Z3d];rintro⟨q,hq,hq2⟩;rw[hno q (by rw[Qz9,Z5x zsy];exact hq)]at hq2;cases hq2
   rw[if_neg hany]at hn;obtain⟨v,hv⟩:=Q02 (l:=d) (i:=N) zoy;have hgd:d.getD (e.length - 1) 0=v:=by rw[hN];exact Qa6 hv
   rw[hgd]at hn;refine zM ?_;refine Z2n 89 rfl (y:=.one (int (N:Nat))) (.ofEq (by congr 3;simp;omega)) ?_;refine zS (idxI tabOk rfl rfl rfl rfl rfl rfl rfl zuy) ?_;refine zS (Qmo tabOk rfl rfl rfl rfl rfl rfl hv) ?_;refine zA ?_;refine Q00.cond rfl (fun hb4=>?_) (fun hb4=>?_)
   ·refine zA ?_;refine Q09.fin rfl (Z7h ?_) zsy hou rfl;rw[hn,if_pos (by simpa using hb4)]
   ·refine zA ?_;refine Q09.fin rfl (Z7h ?_) zsy hou rfl;rw[hn,if_neg (by simpa using hb4)]
structure SetIs (S:List Int)(ck:Nat)(l:List (Nat×Int×Unit)):Prop where
 ex:∃f,IMOk f ck l/\∀k,(f k).isSome=S.contains k
theorem SetIs.nil:SetIs [] 0 []:=⟨_,IMOk.nil,fun k=>by simp⟩
theorem Qim{f:Int->Option Unit}(h:∀k,(f k).isSome=S.contains k)(n:Int):∀k,(setF f n () k).isSome=(S++[n]).contains k:=fun k=>by
 unfold setF;by_cases e:n=k
 ·subst e;simp
 ·rw[if_neg e,h k];have:¬k=n:=fun h=>e h.symm;simp[this]
theorem dup_at{r:List Int}(h:S.contains n=true):Q6t (S++n::r)=true:=by apply Classical.byContradiction;intro hd;have:=(Q3e _).1 (by simpa using hd);rw[Z5k]at this;exact this.2.2 n (by simpa using h) n zsy rfl
theorem Qdz(h:S.Nodup)(hn:S.contains n=false):(S++[n]).Nodup:=by rw[Z5k];refine⟨h,by simp,fun a ha b hb e=>?_⟩;simp at hb;subst hb;subst e;simp at hn;exact hn ha
theorem Q43{l:List α}{a:α}(h:l[j]?=some a):l.take (j+1)=l.take j++[a]:=by rw[Z5t,h];rfl
theorem Qf0{l:List α}{a:α}(h:l[j]?=some a):l=l.take j++a::l.drop (j+1):=by have h1:=(Z49.1 h);obtain⟨h2,h3⟩:=h1;rw[←h3,←Z3k h2,Z5u]
theorem Qro(hΓ:GI Γ)(e:List Ex)(he:okE e)(params:List Int)(hp:params.length<=1048576)(hbl:∀x∈e,(Q13 x).length<=4194304/\x.binds.length+(x.alts.flatMap (·.binds)).length<=4194304):
  Q09 Tryz.prog Γ 89 [.one (.sl 5 (e.map cEx)),.one (.sl 1 (params.map cI))] (.one (.lit (.bool (Q6t (params++Q0l e))))):=by
 have hel:=he.l;intro ou;refine zwk 68 Tryz.func89 fun hou=>?_;refine zA ?_;refine zS (Q01.makeMap rfl) ?_;refine zA ?_;refine Qv6 hΓ (α:=Nat×Nat×List (Nat×Int×Unit)) (fun a=>[(20,.one (int a.1)),(19,.one (int (params.map cI).length)),(18,.one (.sl 1 (params.map cI))),(5,.one (.mp (.l 0))),(0,.one (.sl 5 (e.map cEx)))])
  (fun a=>⟨1,[(0,.map a.2.1 (encI eU a.2.2))],ou⟩) (fun m a=>a.1<=params.length/\SetIs (params.take a.1) a.2.1 a.2.2/\(params.take a.1).Nodup/\m=params.length - a.1) (a0:=(0,0,[])) (ρ:=id) ⟨by omega,by simpa using SetIs.nil,by simp,rfl⟩
  (Z39 rfl zFS zsy zLO rfl rfl hou) fun m a hj=>?_
 obtain⟨j,ck,l⟩:=a;obtain⟨hjl,⟨f,hf,hfs⟩,hnd,rfl⟩:=hj;simp only at hjl hf hfs hnd;refine zA ?_;refine Q00.cond rfl (fun hb2=>?_) (fun hb2=>?_)
 ·have hlt:j < params.length:=by simpa using hb2
  obtain⟨n,hn⟩:=Q02 hlt;refine zA ?_;refine zS (zIA rfl rfl rfl zoy (Q0f hn)) ?_;refine zA ?_;refine zS (Qxw eU (cm:=true) (v:=.agg []) rfl Z7c Z7d rfl rfl rfl zky zeroU hf (by cases f n <;> rfl)) ?_;refine zA ?_;refine zS (Qw9 rfl zky) ?_;refine AOps.step rfl rfl (Qwa rfl zky rfl rfl rfl) ?_;refine zA ?_;refine Q00.cond rfl (fun hb3=>?_) (fun hb3=>?_)
  ·refine zA ?_;refine Q09.fin rfl (Z7h ?_) zsy hou rfl;rw[hfs n]at hb3;have hd:=dup_at (r:=params.drop (j+1)++Q0l e) hb3;rw[←Z3g,←Z3e,←Qf0 hn]at hd;rw[hd]
  ·rw[hfs n]at hb3;refine zA ?_;refine zS (Qw8 rfl Tryz.underlying198 zky) ?_;refine Qxv eU (v:=()) rfl rfl rfl Z7c Z7d rfl rfl rfl rfl hf fun ck' l' hf'=>?_;refine zM ?_;exact cInv ⟨params.length - (j+1),(j+1,ck',l'),id,by omega,⟨by omega,⟨_,hf',by rw[Q43 hn];exact Qim hfs n⟩,by rw[Q43 hn];exact Qdz hnd hb3,rfl⟩,Z39 rfl zFS zsy zLO rfl rfl hou⟩
 have hlt:j=params.length:=by simp at hb2;omega
 subst hlt;rw[Z5w]at hfs hnd;refine zA ?_;refine Qv6 hΓ (α:=Nat×Nat×List (Nat×Int×Unit)) (fun a=>[(37,.one (int a.1)),(36,.one (int (e.map cEx).length)),(35,.one (.sl 5 (e.map cEx))),(5,.one (.mp (.l 0)))])
  (fun a=>⟨1,[(0,.map a.2.1 (encI eU a.2.2))],ou⟩) (fun m a=>a.1<=e.length/\SetIs (params++Q0l (e.take a.1)) a.2.1 a.2.2/\(params++Q0l (e.take a.1)).Nodup/\m=e.length - a.1) (a0:=(0,ck,l)) (ρ:=id) ⟨by omega,⟨f,hf,by simpa[Q0l]using hfs⟩,by simpa[Q0l]using hnd,rfl⟩
  (Z39 rfl zFS zsy zLO rfl rfl hou) fun m a hj=>?_
 clear hf hfs hnd hb2 hjl f;obtain⟨j,ck,l⟩:=a;obtain⟨hjl,⟨f,hf,hfs⟩,hnd,rfl⟩:=hj;simp only at hjl hf hfs hnd;refine zA ?_;refine Q00.cond rfl (fun hb2=>?_) (fun hb2=>?_)
 ·have hlt:j < e.length:=by simpa using hb2
  obtain⟨x,hx⟩:=Q02 hlt;have hxm:=Z5c hx;have hxo:=he.x x hxm;have hxl:=hbl x hxm;have hab:Q0l (e.take (j+1))=Q0l (e.take j)++Q13 x:=by rw[Q43 hx];simp[Q0l]
  have hall:Q0l e=Q0l (e.take j)++(Q13 x++Q0l (e.drop (j+1))):=by
   conv=>lhs;rw[Qf0 hx]
   simp[Q0l]
  refine zA ?_;refine zS (zIA rfl rfl rfl zoy (Q0f hx)) ?_;refine zA ?_;refine Z2l (.l 2) 49 rfl rfl ?_;refine Z2n 49 rfl (y:=.one (.box (cTr (.mk x.op 0 x.binds [] x.alts)))) (.one (Z7g ?_)) ?_
  ·exact .cons (.refl _) (.cons (.refl _) (.cons (.refl _) (.cons (.nilS 1) (.cons (.refl _) .nil))))
  have hcall:=Q7o hΓ (.mk x.op 0 x.binds [] x.alts) (by simpa[Q73]using hxl.2) hxo.a;refine zca hΓ hcall hou ?_;have heb:Q0h x.op x.binds x.alts=Q13 x:=rfl;simp only[Qxn,Qxp,Qxr,heb];refine zA ?_;refine Qv6 hΓ (α:=Nat×Nat×List (Nat×Int×Unit)) (fun a=>[(52,.one (int a.1)),(51,.one (int ((Q13 x).map cI).length)),(50,.one (.sl 1 ((Q13 x).map cI))),(37,.one (int j)),(36,.one (int (e.map cEx).length)),(35,.one (.sl 5 (e.map cEx))),(5,.one (.mp (.l 0)))])
   (fun a=>⟨1,[(0,.map a.2.1 (encI eU a.2.2))],ou⟩) (fun m a=>a.1<=(Q13 x).length/\SetIs (params++Q0l (e.take j)++(Q13 x).take a.1) a.2.1 a.2.2/\(params++Q0l (e.take j)++(Q13 x).take a.1).Nodup/\m=(Q13 x).length - a.1) (a0:=(0,ck,l)) (ρ:=id) ⟨by omega,⟨f,hf,by simpa using hfs⟩,by simpa using hnd,rfl⟩
   (Z39 rfl zFS zsy zLO rfl rfl hou) fun m a hi=>?_
  clear hf hfs hnd f;obtain⟨i,ck,l⟩:=a;obtain⟨hil,⟨f,hf,hfs⟩,hnd,rfl⟩:=hi;simp only at hil hf hfs hnd;refine zA ?_;refine Q00.cond rfl (fun hb3=>?_) (fun hb3=>?_)
  ·have Qz9:i < (Q13 x).length:=by simpa using hb3
   obtain⟨n,hn⟩:=Q02 Qz9;refine zA ?_;refine zS (zIA rfl rfl rfl zoy (Q0f hn)) ?_;refine zA ?_;refine zS (Qxw eU (cm:=true) (v:=.agg []) rfl Z7c Z7d rfl rfl rfl zky zeroU hf (by cases f n <;> rfl)) ?_;refine zA ?_;refine zS (Qw9 rfl zky) ?_;refine AOps.step rfl rfl (Qwa rfl zky rfl rfl rfl) ?_;refine zA ?_;refine Q00.cond rfl (fun hb4=>?_) (fun hb4=>?_)
   ·refine zA ?_;refine Q09.fin rfl (Z7h ?_) zsy hou rfl;rw[hfs n]at hb4;have hd:=dup_at (r:=(Q13 x).drop (i+1)++Q0l (e.drop (j+1))) hb4;rw[←Z3g,Z3e (params++_),←Z3e ((Q13 x).take i),←Qf0 hn,Z3e,←hall]at hd;rw[hd]
   ·rw[hfs n]at hb4;refine zA ?_;refine zS (Qw8 rfl Tryz.underlying198 zky) ?_;refine Qxv eU (v:=()) rfl rfl rfl Z7c Z7d rfl rfl rfl rfl hf fun ck' l' hf'=>?_;refine zM ?_;exact cInv ⟨(Q13 x).length - (i+1),(i+1,ck',l'),id,by omega,⟨by omega,⟨_,hf',by rw[Q43 hn,←Z3e];exact Qim hfs n⟩,by rw[Q43 hn,←Z3e];exact Qdz hnd hb4,rfl⟩,Z39 rfl zFS zsy zLO rfl rfl hou⟩
  ·have Qz9:i=(Q13 x).length:=by simp at hb3;omega
   subst Qz9;rw[Z5w,Z3e,←hab]at hfs hnd;refine zM ?_;exact cInv ⟨e.length - (j+1),(j+1,ck,l),id,by omega,⟨by omega,⟨_,hf,hfs⟩,hnd,rfl⟩,Z39 rfl zFS zsy zLO rfl rfl hou⟩
 ·have hlt:j=e.length:=by simp at hb2;omega
  subst hlt;rw[Z5w]at hnd;refine zA ?_;refine Q09.fin rfl (Z7h ?_) zsy hou rfl;rw[(Q3e _).2 hnd]
@[simp] theorem ids_takeA (p:Abs.Id->Prop) (n:Nat) (l:List Alt):idsS p (List.take n (l.map cAlt)):=by rw[←Z4y];exact Qhg p _
@[simp] theorem ids_takeI (p:Abs.Id->Prop) (n:Nat) (l:List Int):idsS p (List.take n (l.map cI)):=by rw[←Z4y];exact Qfu p _
@[simp] theorem renS_nil (ρ:Nat->Nat):renS ρ []=[]:=rfl
def Q3o (ts:List Tr)(n:Nat):List AC:=ts.map (fun t=>.box (cTr t))++List.replicate (n - ts.length) (.lit (.pointer none))
theorem Qml(n:Nat):Q3o [] n=List.replicate n (.lit (.pointer none)):=by simp[Q3o]
theorem Qmm{n:Nat}(h:ts.length<=n):(Q3o ts n).length=n:=by simp[Q3o];omega
theorem Q9x{n k:Nat}{t:Tr}(h:ts[k]?=some t):(Q3o ts n)[k]?=some (.box (cTr t)):=by have hk:=(Z49.1 h).1;unfold Q3o;rw[Z43 (by simpa using hk)];simp[h]
theorem Qmk{n:Nat}(h:ts.length < n)(t:Tr):(Q3o ts n).set ts.length (.box (cTr t))=Q3o (ts++[t]) n:=by unfold Q3o;rw[List.set_append_right _ _ zsy];simp only[Z4k,Z6i,Z4r,Z4t,Z4x,Z3e,Z4g,Z4o];congr 1;rw[show n - ts.length=(n - (ts.length+1))+1 by omega,Z5p];rfl
theorem Qhh(p:Abs.Id->Prop):∀ts:List Tr,idsL p (ts.map fun t=>AC.box (cTr t))
 |[]=>by simp
 |t::ts=>by simp[Qhh p ts]
theorem Q8y{p:Abs.Id->Prop}:∀{a b:List AC},idsL p a->idsL p b->idsL p (a++b)
 |[],_,_,h=>h
 |_::_,_,h,k=>⟨h.1,Q8y h.2 k⟩
@[simp] theorem ids_nodesC (p:Abs.Id->Prop) (ts:List Tr) (n:Nat):idsL p (Q3o ts n):=Q8y (Qhh p ts) (Qld p _ _)
def Q6q (ts:List Tr)(ks:List Int):List Tr:=ks.map fun k=>ts.getD k.toNat default
theorem Qms(h:ks[i]?=some k):Q6q ts (ks.take (i+1))=Q6q ts (ks.take i)++[ts.getD k.toNat default]:=by simp[Q6q,Z5t,h]
theorem Qp9(ts:List Tr)(x:Ex):Q4i ts x=.mk x.op x.n x.binds (Q6q ts x.kids) x.alts:=rfl
theorem Q0u{l:List α}{a:α}(h:l[j]?=some a):l.take (j+1)=l.take j++[a]:=by rw[Z5t,h];rfl
theorem Qgd(hΓ:GI Γ)(e:List Ex)(he:okE e)(hin:Q1d e)(hne:e≠[]):Q09 Tryz.prog Γ 25 [.one (.sl 5 (e.map cEx))] (.one (.box (cTr (grow e)))):=by
 have hel:=he.l;intro ou;refine zwk 85 Tryz.func25 fun hou=>?_;refine zA ?_;have hb:ti74.bytes * (e.map cEx).length<=281474976710656:=by simp;show 8 * _<=_;omega
 have hb2:(e.map cEx).length<=281474976710656:=by simp;omega
 refine zS (Qw3 tabOk rfl rfl rfl rfl rfl rfl rfl rfl hb hb2) ?_;refine zA ?_;refine Qv6 hΓ (α:=Nat) (fun j=>[(16,.one (int j)),(15,.one (int (e.map cEx).length)),(14,.one (.sl 5 (e.map cEx))),(3,.one (.arr (.l 0) 1 0 (e.map cEx).length (e.map cEx).length)),(0,.one (.sl 5 (e.map cEx)))])
  (fun j=>⟨1,[(0,.cells (Q3o (Q0q (e.take j)) (e.map cEx).length))],ou⟩) (fun m j=>j<=e.length/\m=e.length - j) (a0:=0) (ρ:=id) ⟨by omega,rfl⟩
  (Z39 rfl zFS zsy (Q1b.cons rfl (by rw[Z2f _ _ zsy];show AObj.cells (List.replicate _ _)=AObj.cells (Q3o [] _);rw[Qml]) rfl zsy .nil) rfl rfl hou) fun m j hj=>?_
 obtain⟨hjl,rfl⟩:=hj;refine zA ?_;refine Q00.cond rfl (fun hb2=>?_) (fun hb2=>?_)
 ·have hlt:j < e.length:=by simpa using hb2
  obtain⟨x,hx⟩:=Q02 hlt;have hxo:=he.x x (Z5c hx);have hxk:=hxo.k;have hxa:=hxo.a;have Z1i:=hin j x hx;have hgl:(Q0q (e.take j)).length=j:=by rw[Q2g];simp;omega
  refine zA ?_;refine zS (zIA rfl rfl rfl zoy (Q0f hx)) ?_;refine zA ?_;have hcl:=Q5j (Γ:=Γ) x.binds hxo.b;refine Qxu (va:=.one (.ptr (.l 2) 0)) (σ1:=(((St.mk 1 [(0,.cells (Q3o (Q0q (e.take j)) (e.map cEx).length))] ou).push (.cells (ti62.zero.map .lit))).set (.l 1) (.cells (cEx x))).push (.cells [int x.op,int x.n,.sl 1 (x.binds.map cI),.lit (.slice none 0 0),.lit (.slice none 0 0)]))
   tabOk 9 8 [(6,.one (.sl 1 (x.binds.map cI)))] follows zky rfl rfl rfl rfl rfl rfl rfl (Q0b.auto tabOk rfl) ?_ ?_ ?_
  ·exact .call hΓ hcl hou zsy rfl rfl rfl rfl rfl rfl .nil
  ·exact .call hΓ hcl hou zsy rfl rfl rfl rfl rfl rfl .nil
  refine zA ?_;refine Q00.grow 2 3 74 1 rfl rfl ?_;refine Qv6 hΓ (α:=Nat) (fun i=>[(33,.one (int i)),(32,.one (int (x.kids.map cI).length)),(31,.one (.sl 1 (x.kids.map cI))),(6,.one (.ptr (.l 2) 0)),(5,.one (.ptr (.l 1) 0)),(4,.one (int j)),(16,.one (int j)),(15,.one (int (e.map cEx).length)),(14,.one (.sl 5 (e.map cEx))),(3,.one (.arr (.l 0) 1 0 (e.map cEx).length (e.map cEx).length)),(0,.one (.sl 5 (e.map cEx)))])
   (fun i=>⟨4,[(3,.tok 74 1 i),(2,.cells [int x.op,int x.n,.sl 1 (x.binds.map cI),.gs 1 ((Q6q (Q0q (e.take j)) (x.kids.take i)).map cB) (.l 3),.lit (.slice none 0 0)]),(1,.cells (cEx x)),(0,.cells (Q3o (Q0q (e.take j)) (e.map cEx).length))],ou⟩)
   (fun m i=>i<=x.kids.length/\m=x.kids.length - i) (a0:=0) (ρ:=id) ⟨by omega,rfl⟩ (Z39 rfl zFS zsy ?_ rfl rfl hou) fun m i hi=>?_
  ·repeat' first|exact Q1b.nil|refine zlc ?_|refine zld ?_ ?_|rfl
   all_goals (simp[AObj.ren,renL,AC.ren,Q6q];rfl)
  obtain⟨hil,rfl⟩:=hi;refine zA ?_;refine Q00.cond rfl (fun hb3=>?_) (fun hb3=>?_)
  ·have Qz9:i < x.kids.length:=by simpa using hb3
   obtain⟨k,hk⟩:=Q02 Qz9;have hkb:=Z1i k (Z5c hk);obtain⟨k',rfl⟩:∃k':Nat,k=k':=⟨k.toNat,by omega⟩;obtain⟨tk,htk⟩:=Q02 (l:=Q0q (e.take j)) (i:=k') zoy;have htd:(Q0q (e.take j)).getD (k':Int).toNat default=tk:=by rw[Z38,Z42,htk];rfl
   have hks:=Qms (ts:=Q0q (e.take j)) hk;rw[htd]at hks;have hkl:((Q6q (Q0q (e.take j)) (x.kids.take i)).map cB).length=i:=by simp[Q6q];omega
   refine zA ?_;refine zS (zIA rfl rfl rfl zoy (Q0f hk)) ?_;refine zA ?_;refine Qxu (va:=.one (.gs 1 ((Q6q (Q0q (e.take j)) (x.kids.take i)).map cB++[cB tk]) (.l 4))) (σ1:=((St.mk 4 [(3,.tok 74 1 i),(2,.cells [int x.op,int x.n,.sl 1 (x.binds.map cI),.gs 1 ((Q6q (Q0q (e.take j)) (x.kids.take i)).map cB) (.l 3),.lit (.slice none 0 0)]),(1,.cells (cEx x)),(0,.cells (Q3o (Q0q (e.take j)) (e.map cEx).length))] ou).set (.l 3) .dead).push (.tok 74 1 ((Q6q (Q0q (e.take j)) (x.kids.take i)).map cB++[cB tk]).length))
    tabOk 11 10 [(7,.one (.ptr (.l 0) k')),(8,.one (.box (cTr tk)))] follows zky rfl rfl rfl rfl rfl rfl rfl ?_ ?_ ?_ ?_
   ·refine Q0b.plain rfl (Q01.append (s:=1) (es:=(Q6q (Q0q (e.take j)) (x.kids.take i)).map cB) (news:=[cB tk]) (ti:=Qih) (σ:=⟨4,[(3,.tok 74 1 i),(2,.cells [int x.op,int x.n,.sl 1 (x.binds.map cI),.gs 1 ((Q6q (Q0q (e.take j)) (x.kids.take i)).map cB) (.l 3),.lit (.slice none 0 0)]),(1,.cells (cEx x)),(0,.cells (Q3o (Q0q (e.take j)) (e.map cEx).length))],ou⟩) tabOk rfl rfl rfl rfl rfl rfl (Qve _ 74 1 ((Q6q (Q0q (e.take j)) (x.kids.take i)).map cB) (.l 3) rfl hkl.symm) (.sl _ _) rfl ?_ ?_)
    ·rw[hkl];show (i+1) * 8<=_;omega
    ·rw[hkl];show i+1<=_;omega
   ·refine .step rfl (zHP (idxI tabOk rfl rfl rfl rfl rfl rfl rfl zuy)) ?_;exact .step rfl (zHP (zLD rfl rfl rfl (Q9x htk))) .nil
   ·refine .step rfl (zHP (idxI tabOk rfl rfl rfl rfl rfl rfl rfl zuy)) ?_;exact .step rfl (zHP (zLD rfl rfl rfl (Q9x htk))) .nil
   refine zM ?_;refine cInv ⟨x.kids.length - (i+1),i+1,fun k=>if k=3 then 4 else k,by omega,⟨by omega,rfl⟩,Z39 rfl zFS zsy ?_ rfl rfl hou⟩;repeat' first|exact Q1b.nil|refine zlc ?_|refine zld ?_ ?_|rfl
   ·simp only[AObj.ren,Z4g,hkl];rfl
   ·rw[hks];simp only[AObj.ren,renL,AC.ren,Q4v,Qfa];rw[Z4r];rfl
  have Qz9:i=x.kids.length:=by simp at hb3;omega
  subst Qz9;rw[Z5w];refine zA ?_;refine Q00.grow 2 4 51 2 rfl rfl ?_;refine Qv6 hΓ (α:=Nat) (fun i=>[(54,.one (int i)),(53,.one (int (x.alts.map cAlt).length)),(52,.one (.sl 2 (x.alts.map cAlt))),(6,.one (.ptr (.l 2) 0)),(4,.one (int j)),(16,.one (int j)),(15,.one (int (e.map cEx).length)),(14,.one (.sl 5 (e.map cEx))),(3,.one (.arr (.l 0) 1 0 (e.map cEx).length (e.map cEx).length)),(0,.one (.sl 5 (e.map cEx)))])
   (fun i=>⟨5,[(4,.tok 51 2 i),(2,.cells [int x.op,int x.n,.sl 1 (x.binds.map cI),.gs 1 ((Q6q (Q0q (e.take j)) x.kids).map cB) (.l 3),.gs 2 ((x.alts.take i).map cAlt) (.l 4)]),(0,.cells (Q3o (Q0q (e.take j)) (e.map cEx).length))],ou⟩)
   (fun m i=>i<=x.alts.length/\m=x.alts.length - i) (a0:=0) (ρ:=id) ⟨by omega,rfl⟩ (Z39 rfl zFS zsy ?_ rfl rfl hou) fun m i hi=>?_
  ·repeat' first|exact Q1b.nil|refine zlc ?_|refine zld ?_ ?_|rfl
   all_goals (simp[AObj.ren,renL,AC.ren];exact⟨rfl,rfl⟩)
  obtain⟨hil,rfl⟩:=hi;refine zA ?_;refine Q00.cond rfl (fun hb3=>?_) (fun hb3=>?_)
  ·have Qz9:i < x.alts.length:=by simpa using hb3
   obtain⟨a,ha⟩:=Q02 Qz9;have hal:((x.alts.take i).map cAlt).length=i:=by simp;omega
   have hca:=Q5j (Γ:=Γ) a.binds (hxo.ab a (Z5c ha));refine zA ?_;refine zS (zIA rfl rfl rfl zoy (Q0f ha)) ?_;refine zA ?_;refine Qxu (va:=.one (.gs 2 ((x.alts.take i).map cAlt++[cAlt a]) (.l 6))) (σ1:=((((St.mk 5 [(4,.tok 51 2 i),(2,.cells [int x.op,int x.n,.sl 1 (x.binds.map cI),.gs 1 ((Q6q (Q0q (e.take j)) x.kids).map cB) (.l 3),.gs 2 ((x.alts.take i).map cAlt) (.l 4)]),(0,.cells (Q3o (Q0q (e.take j)) (e.map cEx).length))] ou).push (.cells (ti51.zero.map .lit))).set (.l 5) (.cells (cAlt a))).set (.l 4) .dead).push (.tok 51 2 ((x.alts.take i).map cAlt++[cAlt a]).length))
    tabOk 13 12 [(9,.one (.sl 1 (a.binds.map cI)))] follows zky rfl rfl rfl rfl rfl rfl rfl ?_ ?_ ?_ ?_
   ·refine Q0b.plain rfl (Q01.append (s:=2) (es:=(x.alts.take i).map cAlt) (news:=[cAlt a]) (ti:=ti52) (σ:=(((St.mk 5 [(4,.tok 51 2 i),(2,.cells [int x.op,int x.n,.sl 1 (x.binds.map cI),.gs 1 ((Q6q (Q0q (e.take j)) x.kids).map cB) (.l 3),.gs 2 ((x.alts.take i).map cAlt) (.l 4)]),(0,.cells (Q3o (Q0q (e.take j)) (e.map cEx).length))] ou).push (.cells (ti51.zero.map .lit))).set (.l 5) (.cells (cAlt a)))) tabOk rfl rfl rfl rfl rfl rfl (Qve _ 51 2 ((x.alts.take i).map cAlt) (.l 4) rfl hal.symm) (.sl _ _) rfl ?_ ?_)
    ·rw[hal];show (i+1) * 32<=_;omega
    ·rw[hal];show i+1<=_;omega
   ·exact .call hΓ hca hou zsy rfl rfl rfl rfl rfl rfl .nil
   ·exact .call hΓ hca hou zsy rfl rfl rfl rfl rfl rfl .nil
   refine zM ?_;refine cInv ⟨x.alts.length - (i+1),i+1,fun k=>if k=4 then 6 else k,by omega,⟨by omega,rfl⟩,Z39 rfl zFS zsy ?_ rfl rfl hou⟩;repeat' first|exact Q1b.nil|refine zlc ?_|refine zld ?_ ?_|rfl
   ·simp only[AObj.ren,Z4g,hal];rfl
   ·rw[Q0u ha];simp only[AObj.ren,renL,AC.ren,Q4v,Qfa,Q4w];rw[Z4r];rfl
  have Qz9:i=x.alts.length:=by simp at hb3;omega
  subst Qz9;rw[Z5w];refine zA ?_;refine zS (idxI tabOk rfl rfl rfl rfl rfl rfl rfl zuy) ?_;refine Z2l (.l 2) 76 rfl rfl ?_;refine Z2n 76 rfl (y:=.one (.box (cTr (Q4i (Q0q (e.take j)) x)))) (.one (Z7g ?_)) ?_
  ·rw[Qp9];exact .cons (.refl _) (.cons (.refl _) (.cons (.refl _) (.cons (.gsE (Q0i _).symm) (.cons (.gsE rfl) .nil))))
  refine Z2m tabOk rfl rfl rfl rfl rfl rfl rfl rfl (by rw[Qmm (by simp[hgl];omega)];simp;omega) ?_;have hst:=Qmk (ts:=Q0q (e.take j)) (n:=(e.map cEx).length) (by simp[hgl];omega) (Q4i (Q0q (e.take j)) x);rw[hgl,←Q3f,←Q0u hx]at hst;rw[hst];refine zM ?_;exact cInv ⟨e.length - (j+1),j+1,id,by omega,⟨by omega,rfl⟩,Z39 rfl zFS zsy zLO rfl rfl hou⟩
 ·have hlt:j=e.length:=by simp at hb2;omega
  subst hlt;rw[Z5w];obtain⟨N,hN⟩:∃N,e.length=N+1:=⟨e.length - 1,by have:=Z4m.2 hne;omega⟩;obtain⟨t,ht⟩:=Q02 (l:=Q0q e) (i:=N) (by rw[Q2g];omega);have hgt:grow e=t:=by unfold grow;rw[hN,Nat.add_sub_cancel,Z42,ht];rfl
  refine zM ?_;refine Z2n 82 rfl (y:=.one (int (N:Nat))) (.ofEq (by congr 3;simp;omega)) ?_;refine zS (idxI tabOk rfl rfl rfl rfl rfl rfl rfl zuy) ?_;refine zS (zLD rfl rfl rfl (Q9x ht)) ?_;refine zA ?_;refine Q09.fin rfl (Z7h ?_) zsy hou rfl;rw[hgt]
end Go.Proofs.YtlmokgooijbcdaaGreatDoor
namespace Go.CoreX
theorem Q5y(t:Tr):∀(l:List Tr)(out:List Ex),Q06 out (l++[t])=(Q0c (Q06 out l).1 t,(Q06 out l).2++[((Q0c (Q06 out l).1 t).length:Int) - 1])
 |[],out=>by simp[Q06]
 |a::l,out=>by have:=Q5y t l (Q0c out a);simp only[Z3g,Q06,this]
mutual
theorem Qsw:∀(t:Tr)(out:List Ex),out.length < (Q0c out t).length
 |.mk o n b k a,out=>by have:=Q47 k out;simp only[Q0c,Z4g,Z4o];omega
theorem Q47:∀(l:List Tr)(out:List Ex),out.length<=(Q06 out l).1.length
 |[],out=>by simp[Q06]
 |t::l,out=>by have h1:=Qsw t out;have h2:=Q47 l (Q0c out t);simp only[Q06];omega
end
theorem Q3z:∀(l r:List Tr)(out:List Ex),(Q06 out (l++r)).1=(Q06 (Q06 out l).1 r).1
 |[],r,out=>by simp[Q06]
 |a::l,r,out=>by simp only[Z3g,Q06,Q3z l r]
theorem Q4m:∀(l:List Tr)(out:List Ex),(Q06 out l).2.length=l.length
 |[],out=>by simp[Q06]
 |a::l,out=>by simp[Q06,Q4m l]
mutual
def okT:Tr->Prop
 |.mk _ _ b k a=>b.length<=1048576/\k.length<=1048576/\a.length<=1048576/\((∀x∈a,x.binds.length<=1048576)/\b.length+(a.flatMap (·.binds)).length<=4194304)/\okTs k
def okTs:List Tr->Prop
 |[]=>True
 |t::l=>okT t/\okTs l
end
theorem Q3n:∀{l:List Tr},okTs l↔∀t∈l,okT t
 |[]=>by simp[okTs]
 |t::l=>by simp[okTs,Q3n (l:=l)]
end Go.CoreX
namespace Go.Proofs.YtlmokgooijbcdaaGreatDoor
variable {Γ:List (Nat×List AC)}
abbrev fnW (kw ko:Nat):AC:=.fn (.func 66) [] [.ptr (.o kw) 0,.ptr (.o ko) 0]
def ouS (ou:Q03)(ko kt:Nat)(es:List (List AC)):Q03:=updO (updO ou ko (.cells [.gs 5 es (.o kt)])) kt (.tok 62 5 es.length)
theorem Q6f(h:ko≠kt)(es:List (List AC)):ouS ou ko kt es ko=some (.cells [.gs 5 es (.o kt)]):=by unfold ouS;rw[Q05 _ (Z6o h),Q07]
theorem Qfc(ou:Q03)(ko kt:Nat)(es:List (List AC)):ouS ou ko kt es kt=some (.tok 62 5 es.length):=by unfold ouS;rw[Q07]
theorem Q4x{k:Nat}(h:k≠ko)(h2:k≠kt)(es:List (List AC)):ouS ou ko kt es k=ou k:=by unfold ouS;rw[Q05 _ (Z6o h2),Q05 _ (Z6o h)]
theorem Q4h(h:OuOk ou)(he:idsS isO es):OuOk (ouS ou ko kt es):=by
 intro k o hk;unfold ouS at hk;by_cases e:kt=k
 ·subst e;rw[Q07]at hk;cases hk;trivial
 ·rw[Q05 _ e]at hk;by_cases e2:ko=k
  ·subst e2;rw[Q07]at hk;cases hk;exact⟨⟨trivial,he⟩,trivial⟩
  ·rw[Q05 _ e2]at hk;exact h k o hk
def ListOk (Γ:List (Nat×List AC))(t:Tr):Prop:=∀(ou:Q03)(kw ko kt:Nat)(out:List Ex),OuOk ou->ou kw=some (.cells [fnW kw ko])->ou ko=none->ou kt=none->ko≠kt->(Q0c out t).length<=1099511627776->
 AFn Tryz.prog Γ 66 [.one (.box (cTr t)),.one (.ptr (.o kw) 0),.one (.ptr (.o ko) 0)] (ouS ou ko kt (out.map cEx)) (fun r ou'=>r=.one (int (((Q0c out t).length:Int) - 1))/\∃kt',ou kt'=none/\ko≠kt'/\ou'=ouS ou ko kt' ((Q0c out t).map cEx))
theorem Ql6(hΓ:GI Γ):∀t:Tr,okT t->ListOk Γ t
 |.mk o n b ks a,hok=>by
  obtain⟨hb,hk,ha,⟨hab,_⟩,hks⟩:=hok;have ih:∀t∈ks,ListOk Γ t:=fun t ht=>Ql6 hΓ t (Q3n.1 hks t ht);intro ou kw ko kt out Qzg hw ho ht hne hsz;have hwo:kw≠ko:=fun e=>by rw[e,ho]at hw;cases hw
  have Z0c:(Q06 out ks).1.length < 1099511627776:=by simp only[Q0c,Z4g,Z4o]at hsz;omega
  refine zwk 70 Tryz.func66 fun hou=>?_;have hcl:=Q5j (Γ:=Γ) b hb;refine zA ?_;refine Qvs tabOk 15 14 [(12,.one (.sl 1 (b.map cI)))] follows zky rfl rfl rfl rfl rfl rfl rfl rfl rfl ?_ ?_ ?_
  ·exact .call hΓ hcl hou zsy rfl rfl rfl rfl rfl rfl .nil
  ·exact .call hΓ hcl hou zsy rfl rfl rfl rfl rfl rfl .nil
  refine zA ?_;refine Q00.grow 0 3 3 1 rfl rfl ?_;refine Qv6 hΓ (α:=Nat×Nat) (fun c=>[(29,.one (int c.1)),(28,.one (int (Q1a ks).length)),(27,.one (.sl 1 (Q1a ks))),(5,.one (.ptr (.l 0) 0)),(2,.one (.ptr (.o ko) 0)),(1,.one (.ptr (.o kw) 0)),(0,.one (.box (cTr (.mk o n b ks a))))])
   (fun c=>⟨2,[(1,.tok 3 1 c.1),(0,.cells [int o,int n,.sl 1 (b.map cI),.gs 1 ((Q06 out (ks.take c.1)).2.map cI) (.l 1),.lit (.slice none 0 0)])],ouS ou ko c.2 ((Q06 out (ks.take c.1)).1.map cEx)⟩)
   (fun m c=>c.1<=ks.length/\(ou c.2=none/\ko≠c.2)/\m=ks.length - c.1) (a0:=(0,kt)) (ρ:=id) ⟨by omega,⟨ht,hne⟩,rfl⟩ (Z39 rfl zFS zsy ?_ rfl (by simp[Q06];rfl) hou) fun m c hi=>?_
  ·repeat' first|exact Q1b.nil|refine zlc ?_|refine zld ?_ ?_|rfl
   all_goals (simp[AObj.ren,renL,AC.ren,Q06];rfl)
  obtain⟨i,kt⟩:=c;obtain⟨hil,⟨ht,hne⟩,rfl⟩:=hi;simp only at hil ht hne;have hwt:kw≠kt:=fun e=>by rw[e,ht]at hw;cases hw
  have hle:(Q06 out (ks.take i)).1.length<=(Q06 out ks).1.length:=by have:=Q3z (ks.take i) (ks.drop i) out;rw[Z5u]at this;rw[this];exact Q47 _ _
  refine zA ?_;refine Q00.cond rfl (fun hb3=>?_) (fun hb3=>?_)
  ·have Qz9:i < ks.length:=by simpa using hb3
   obtain⟨t,ht2⟩:=Q02 Qz9;have hsn:=Q5y t (ks.take i) out;rw[←Q0u ht2]at hsn;have hle2:(Q0c (Q06 out (ks.take i)).1 t).length<=1099511627776:=by have:=Q3z (ks.take (i+1)) (ks.drop (i+1)) out;rw[Z5u]at this;have h2:=Q47 (ks.drop (i+1)) (Q06 out (ks.take (i+1))).1;rw[←this,hsn]at h2;simp only at h2;omega
   have hcall:=ih t (Z5c ht2) ou kw ko kt (Q06 out (ks.take i)).1 Qzg hw ho ht hne hle2;have Qzy:((Q06 out (ks.take i)).2.map cI).length=i:=by rw[Z4k,Q4m];simp;omega
   refine zA ?_;refine zS (zIA rfl rfl rfl zoy (Q1x ht2)) ?_;refine zA ?_;refine Qwj (va:=.one (int (((Q0c (Q06 out (ks.take i)).1 t).length:Int) - 1))) tabOk 6 4 [(2,.one (fnW kw ko))]
    (fun σ=>∃kt',ou kt'=none/\ko≠kt'/\σ=⟨2,[(1,.tok 3 1 i),(0,.cells [int o,int n,.sl 1 (b.map cI),.gs 1 ((Q06 out (ks.take i)).2.map cI) (.l 1),.lit (.slice none 0 0)])],ouS ou ko kt' ((Q0c (Q06 out (ks.take i)).1 t).map cEx)⟩)
    follows zky rfl rfl rfl rfl rfl ?_ rfl ⟨rfl,rfl⟩ rfl ?_ ?_ ?_ ?_
   ·rintro σ ⟨kt',h1,h2,rfl⟩;rfl
   ·refine Q27.call hΓ rfl rfl rfl rfl zsy (Q4h Qzg zsy) hcall fun r ou' hq _ _=>?_;obtain⟨rfl,kt',h1,h2,rfl⟩:=hq;exact⟨rfl,kt',h1,h2,rfl⟩
   ·exact .step rfl (zHP (zLD rfl rfl (Q4x hwo hwt _ |>.trans hw) rfl)) .nil
   ·rintro σ ⟨kt',h1,h2,rfl⟩;have Z1w:kw≠kt':=fun e=>by rw[e,h1]at hw;cases hw
    exact .step rfl (zHP (zLD rfl rfl (Q4x hwo Z1w _ |>.trans hw) rfl)) .nil
   rintro σ ⟨kt',h1,h2,rfl⟩;refine zA ?_;refine AOps.app tabOk rfl rfl rfl rfl rfl rfl rfl rfl rfl (Qve _ _ _ _ _ (by rfl) Qzy.symm) (.sl _ _) rfl ?_ ?_ ?_
   ·rw[Qzy];show (i+1) * 8<=_;omega
   ·rw[Qzy];show i+1<=_;omega
   refine zM ?_;refine cInv ⟨ks.length - (i+1),(i+1,kt'),fun k=>if k=1 then 2 else k,by omega,⟨by omega,⟨h1,h2⟩,rfl⟩,Z39 rfl zFS zsy ?_ rfl (by simp only[hsn];rfl) (Q4h Qzg zsy)⟩;repeat' first|exact Q1b.nil|refine zlc ?_|refine zld ?_ ?_|rfl
   ·simp only[AObj.ren,Z4g,Qzy];rfl
   ·simp only[hsn];simp only[AObj.ren,renL,AC.ren,Q4v];rw[Z4r];rfl
  have Qz9:i=ks.length:=by simp at hb3;omega
  subst Qz9;rw[Z5w]at *;refine zA ?_;refine Q00.grow 0 4 51 2 rfl rfl ?_;refine Qv6 hΓ (α:=Nat) (fun i=>[(47,.one (int i)),(46,.one (int (a.map cAlt).length)),(45,.one (.sl 2 (a.map cAlt))),(5,.one (.ptr (.l 0) 0)),(2,.one (.ptr (.o ko) 0)),(1,.one (.ptr (.o kw) 0)),(0,.one (.box (cTr (.mk o n b ks a))))])
   (fun i=>⟨3,[(2,.tok 51 2 i),(0,.cells [int o,int n,.sl 1 (b.map cI),.gs 1 ((Q06 out ks).2.map cI) (.l 1),.gs 2 ((a.take i).map cAlt) (.l 2)])],ouS ou ko kt ((Q06 out ks).1.map cEx)⟩)
   (fun m i=>i<=a.length/\m=a.length - i) (a0:=0) (ρ:=id) ⟨by omega,rfl⟩ (Z39 rfl zFS zsy ?_ rfl rfl (Q4h Qzg zsy)) fun m i hi=>?_
  ·repeat' first|exact Q1b.nil|refine zlc ?_|refine zld ?_ ?_|rfl
   all_goals (simp[AObj.ren,renL,AC.ren];exact⟨rfl,rfl⟩)
  obtain⟨hil,rfl⟩:=hi;have Qzs:OuOk (ouS ou ko kt ((Q06 out ks).1.map cEx)):=Q4h Qzg zsy;refine zA ?_;refine Q00.cond rfl (fun hb3=>?_) (fun hb3=>?_)
  ·have Qz9:i < a.length:=by simpa using hb3
   obtain⟨c,hc⟩:=Q02 Qz9;have hal:((a.take i).map cAlt).length=i:=by simp;omega
   have hca:=Q5j (Γ:=Γ) c.binds (hab c (Z5c hc));refine zA ?_;refine zS (zIA rfl rfl rfl zoy (Q0f hc)) ?_;refine zA ?_;refine Qvh tabOk 9 [(6,.one (.sl 1 (c.binds.map cI)))] follows zky rfl rfl rfl rfl (.call hΓ hca Qzs zsy rfl rfl rfl rfl rfl rfl .nil) ?_;refine zA ?_;refine AOps.app tabOk rfl rfl rfl rfl rfl rfl rfl rfl rfl (Qve _ _ _ _ _ (by rfl) hal.symm) (.sl _ _) rfl ?_ ?_ ?_
   ·rw[hal];show (i+1) * 32<=_;omega
   ·rw[hal];show i+1<=_;omega
   refine zM ?_;refine cInv ⟨a.length - (i+1),i+1,fun k=>if k=2 then 4 else k,by omega,⟨by omega,rfl⟩,Z39 rfl zFS zsy ?_ rfl rfl Qzs⟩;repeat' first|exact Q1b.nil|refine zlc ?_|refine zld ?_ ?_|rfl
   ·simp only[AObj.ren,Z4g,hal];rfl
   ·rw[Q0u hc];simp only[AObj.ren,renL,AC.ren,Q4v,Q4w];rw[Z4r];rfl
  have Qz9:i=a.length:=by simp at hb3;omega
  subst Qz9;rw[Z5w];refine zA ?_;refine zS (zLD rfl rfl (Q6f hne _) rfl) ?_
  (first|((with_reducible refine oj ?_);refine zau ?_)|(with_reducible refine zst ?_)|((with_reducible refine Q0e ?_ ?_);rfl)|(with_reducible refine ok ?_;first|refine Q00.condT rfl ?_|refine Q00.condF rfl ?_))
  refine Z2n 64 rfl (y:=.agg (cEx ⟨o,n,b,(Q06 out ks).2,a⟩)) (WkF.agg ?_) ?_
  ·exact .cons (.refl _) (.cons (.refl _) (.cons (.refl _) (.cons (.gsE rfl) (.cons (.gsE rfl) .nil))))
  refine zA ?_;have hT:Q0c out (.mk o n b ks a)=(Q06 out ks).1++[⟨o,n,b,(Q06 out ks).2,a⟩]:=by simp only[Q0c]
  have hmap:(Q06 out ks).1.map cEx++[cEx ⟨o,n,b,(Q06 out ks).2,a⟩]=(Q0c out (.mk o n b ks a)).map cEx:=by rw[hT,Z4r];rfl
  refine AOps.app (es:=(Q06 out ks).1.map cEx) tabOk rfl rfl rfl rfl rfl rfl rfl rfl rfl (Qve _ 62 5 _ (.o kt) (Qfc ou ko kt _) rfl) (.sl 5 [cEx ⟨o,n,b,(Q06 out ks).2,a⟩]) rfl ?_ ?_ ?_
  ·simp;show (_+1) * 88<=_;omega
  ·simp;omega
  rw[hmap];refine Z2m (cs:=[.gs 5 ((Q06 out ks).1.map cEx) (.o kt)]) tabOk rfl rfl rfl rfl rfl rfl rfl (show (bif Nat.beq ko kt then some AObj.dead else ouS ou ko kt ((Q06 out ks).1.map cEx) ko)=_ by rw[Q0d hne];exact Q6f hne _) zsy ?_;refine Qwl 3 (show 3 < 4 by omega) fun k hk=>⟨[(2,.one (.ptr (.o ko) 0))],⟨4,[],ouS ou ko k ((Q0c out (.mk o n b ks a)).map cEx)⟩,⟨fun d x hd=>?_,rfl,fun i x hx=>?_⟩,?_⟩
  ·by_cases e:2=d
   ·subst e;simp[Fr.get]at hd;subst hd;exact⟨_,rfl,Z7h rfl⟩
   ·simp[Fr.get,Q0d e]at hd
  ·have hk':(bif Nat.beq k ko then some (AObj.cells [.gs 5 ((Q0c out (.mk o n b ks a)).map cEx) (.l 3)])else bif Nat.beq k kt then some AObj.dead else ouS ou ko kt ((Q06 out ks).1.map cEx) k)=none:=hk;have k1:k≠ko:=fun e=>by subst e;simp at hk'
   rw[Q0d k1]at hk';have k2:k≠kt:=fun e=>by subst e;simp at hk'
   rw[Q0d k2]at hk';simp only[cond_false,Q4x k1 k2]at hk';cases i with
   |l m=>cases hx
   |o m=>
    have hx':ouS ou ko k ((Q0c out (.mk o n b ks a)).map cEx) m=some x:=hx;by_cases e:m=k
    ·subst e;rw[Qfc]at hx';cases hx';exact⟨.l 3,_,rfl,rfl,rfl⟩
    ·by_cases e2:m=ko
     ·subst e2;rw[Q6f e]at hx';cases hx';refine⟨.o m,.cells [.gs 5 ((Q0c out (.mk o n b ks a)).map cEx) (.l 3)],?_,rfl,?_⟩
      ·show (bif Nat.beq m m then _ else _)=_;rw[Q5i];rfl
      ·simp only[AObj.sub,subL,AC.sub];rw[Qdl _ zsy];rfl
     ·rw[Q4x e2 e]at hx';have e3:m≠kt:=fun e=>by rw[e,ht]at hx';cases hx'
      refine⟨.o m,x,?_,rfl,(Z2h x (Qzg m x hx')).symm⟩;show (bif Nat.beq m ko then _ else bif Nat.beq m kt then _ else ouS ou ko kt _ m)=_;rw[Q0d e2,Q0d e3];exact (Q4x e2 e3 _).trans hx'
  ·have hk':(bif Nat.beq k ko then some (AObj.cells [.gs 5 ((Q0c out (.mk o n b ks a)).map cEx) (.l 3)])else bif Nat.beq k kt then some AObj.dead else ouS ou ko kt ((Q06 out ks).1.map cEx) k)=none:=hk;have k1:k≠ko:=fun e=>by subst e;simp at hk'
   rw[Q0d k1]at hk';have k2:k≠kt:=fun e=>by subst e;simp at hk'
   rw[Q0d k2]at hk';simp only[cond_false,Q4x k1 k2]at hk';refine zA ?_;refine zS (zLD rfl rfl (Q6f (Z6o k1) _) rfl) ?_;refine zM ?_;refine Qwm rfl (Z7h ?_) zsy (Q4h Qzg zsy) ⟨rfl,k,hk',Z6o k1,rfl⟩;simp
end Go.Proofs.YtlmokgooijbcdaaGreatDoor
namespace Go.Abs
inductive CedFr (θ:Id->Id)(fr:Fr):Fr->Prop
 |nil:CedFr θ fr []
 |cons {k:Nat}{x y:FV}{r:Fr}(h:Fr.get k fr=some y) (hw:y.sub θ=x) (hr:CedFr θ fr r):CedFr θ fr ((k,x)::r)
theorem CedFr.get{θ:Id->Id}{fr fr':Fr}(h:CedFr θ fr fr'):∀d x,Fr.get d fr'=some x->∃y,Fr.get d fr=some y/\WkF (y.sub θ) x:=by
 induction h with
 |nil=>intro d x h;cases h
 |@cons k x y r h hw hr ih=>
  intro d z hz;simp only[Fr.get]at hz;by_cases e:k=d
  ·subst e;simp at hz;subst hz;exact⟨y,h,Z7h hw⟩
  ·rw[Q0d e]at hz;exact ih d z hz
end Go.Abs
namespace Go.Proofs.YtlmokgooijbcdaaGreatDoor
variable {Γ:List (Nat×List AC)}
theorem Qu2(hΓ:GI Γ)(t:Tr)(ht:okT t)(hsz:(Q0c [] t).length<=1099511627776):Q09 Tryz.prog Γ 32 [.one (.box (cTr t))] (.one (.sl 5 ((Q0c [] t).map cEx))):=by
 intro ou;refine zwk 10 Tryz.func32 fun hou=>?_;iterate 22 (refine zO ?_)
 refine Q00.grow 0 0 62 5 rfl rfl ?_;refine zA ?_;refine Qwl 0 (show 0 < 3 by omega) fun ko hko=>⟨[(7,.one (.box (cTr t))),(6,.one (.fn (.func 66) [] [.ptr (.l 1) 0,.ptr (.o ko) 0])),(3,.one (.ptr (.o ko) 0))],
  ⟨3,[(2,.tok 62 5 0),(1,.cells [.fn (.func 66) [] [.ptr (.l 1) 0,.ptr (.o ko) 0]])],updO ou ko (.cells [.gs 5 [] (.l 2)])⟩,⟨CedFr.get ?_,rfl,fun i x hx=>?_⟩,?_⟩
 ·exact .cons rfl (FV.sub_o _ zsy) (.cons rfl rfl (.cons rfl rfl .nil))
 ·have hko:ou ko=none:=hko;cases i with
  |l m=>
   by_cases e:2=m
   ·subst e;cases hx;exact⟨.l 2,_,rfl,rfl,rfl⟩
   ·have hx':Q28 m [(1,AObj.cells [.fn (.func 66) [] [.ptr (.l 1) 0,.ptr (.o ko) 0]])]=some x:=by simpa[St.get,Q28,Q0d e]using hx
    by_cases e1:1=m
    ·subst e1;cases hx';exact⟨.l 1,_,rfl,rfl,rfl⟩
    ·simp[Q28,Q0d e1]at hx'
  |o m=>
   have hx':updO ou ko (.cells [.gs 5 [] (.l 2)]) m=some x:=hx;by_cases e:ko=m
   ·subst e;rw[Q07]at hx';cases hx';exact⟨.l 0,_,rfl,rfl,rfl⟩
   ·rw[Q05 _ e]at hx';exact⟨.o m,x,hx',rfl,(Z2h x (hou m x hx')).symm⟩
 have hko:ou ko=none:=hko;refine Qwl 1 (show 1 < 3 by omega) fun kw hkw=>⟨[(7,.one (.box (cTr t))),(6,.one (fnW kw ko)),(3,.one (.ptr (.o ko) 0))],
  ⟨3,[(2,.tok 62 5 0)],updO (updO ou ko (.cells [.gs 5 [] (.l 2)])) kw (.cells [fnW kw ko])⟩,⟨CedFr.get ?_,rfl,fun i x hx=>?_⟩,?_⟩
 ·exact .cons rfl (FV.sub_o _ zsy) (.cons rfl rfl (.cons rfl rfl .nil))
 ·have hkw:updO ou ko (.cells [.gs 5 [] (.l 2)]) kw=none:=hkw;cases i with
  |l m=>
   by_cases e:2=m
   ·subst e;cases hx;exact⟨.l 2,_,rfl,rfl,rfl⟩
   ·simp[St.get,Q28,Q0d e]at hx
  |o m=>
   have hx':updO (updO ou ko (.cells [.gs 5 [] (.l 2)])) kw (.cells [fnW kw ko]) m=some x:=hx;by_cases e:kw=m
   ·subst e;rw[Q07]at hx';cases hx';exact⟨.l 1,_,rfl,rfl,rfl⟩
   ·rw[Q05 _ e]at hx';by_cases e2:ko=m
    ·subst e2;rw[Q07]at hx';cases hx';exact⟨.o ko,_,Q07 _ _ _,rfl,rfl⟩
    ·have hx2:=hx';rw[Q05 _ e2]at hx2;exact⟨.o m,x,hx',rfl,(Z2h x (hou m x hx2)).symm⟩
 have hkw:updO ou ko (.cells [.gs 5 [] (.l 2)]) kw=none:=hkw;have hwo:ko≠kw:=fun e=>by subst e;rw[Q07]at hkw;cases hkw
 rw[Q05 _ hwo]at hkw;refine Qwl 2 (show 2 < 3 by omega) fun kt hkt=>⟨[(7,.one (.box (cTr t))),(6,.one (fnW kw ko)),(3,.one (.ptr (.o ko) 0))],
  ⟨3,[],ouS (updO ou kw (.cells [fnW kw ko])) ko kt (([]:List Ex).map cEx)⟩,⟨CedFr.get ?_,rfl,fun i x hx=>?_⟩,?_⟩
 ·exact .cons rfl (FV.sub_o _ zsy) (.cons rfl rfl (.cons rfl rfl .nil))
 ·have hkt:updO (updO ou ko (.cells [.gs 5 [] (.l 2)])) kw (.cells [fnW kw ko]) kt=none:=hkt;have Z14:ko≠kt:=fun e=>by subst e;rw[Q05 _ (Z6o hwo),Q07]at hkt;cases hkt
  cases i with
  |l m=>cases hx
  |o m=>
   have hx':ouS (updO ou kw (.cells [fnW kw ko])) ko kt (([]:List Ex).map cEx) m=some x:=hx;by_cases e:m=kt
   ·subst e;rw[Qfc]at hx';cases hx';exact⟨.l 2,_,rfl,rfl,rfl⟩
   ·by_cases e2:m=ko
    ·subst e2;rw[Q6f Z14]at hx';cases hx';refine⟨.o m,.cells [.gs 5 [] (.l 2)],?_,rfl,rfl⟩;show updO (updO ou m (.cells [.gs 5 [] (.l 2)])) kw (.cells [fnW kw m]) m=_;rw[Q05 _ (Z6o hwo),Q07]
    ·rw[Q4x e2 e]at hx';by_cases e3:kw=m
     ·subst e3;rw[Q07]at hx';cases hx';exact⟨.o kw,_,Q07 _ _ _,rfl,rfl⟩
     ·rw[Q05 _ e3]at hx';refine⟨.o m,x,?_,rfl,(Z2h x (hou m x hx')).symm⟩;show updO (updO ou ko (.cells [.gs 5 [] (.l 2)])) kw (.cells [fnW kw ko]) m=_;rw[Q05 _ e3,Q05 _ (Z6o e2)];exact hx'
 have hkt:updO (updO ou ko (.cells [.gs 5 [] (.l 2)])) kw (.cells [fnW kw ko]) kt=none:=hkt;have hwt:kw≠kt:=fun e=>by subst e;rw[Q07]at hkt;cases hkt
 rw[Q05 _ hwt]at hkt;have hot:ko≠kt:=fun e=>by subst e;rw[Q07]at hkt;cases hkt
 rw[Q05 _ hot]at hkt;have hob:OuOk (updO ou kw (.cells [fnW kw ko])):=fun k o hk=>by
  by_cases e:kw=k
  ·subst e;rw[Q07]at hk;cases hk;simp
  ·rw[Q05 _ e]at hk;exact hou k o hk
 have hcall:=Ql6 hΓ t ht (updO ou kw (.cells [fnW kw ko])) kw ko kt [] hob (Q07 _ _ _) (by rw[Q05 _ (Z6o hwo)];exact hko) (by rw[Q05 _ hwt];exact hkt) hot hsz;refine Qv3 hΓ rfl rfl rfl rfl rfl rfl rfl zsy (Q4h hob zsy) hcall fun r ou' hq Qz6 Z0n=>?_;obtain⟨rfl,kt',h1,h2,rfl⟩:=hq;refine zA ?_;refine zS (zLD rfl rfl (Q6f h2 _) rfl) ?_;refine Z2n 9 rfl (y:=.one (.sl 5 ((Q0c [] t).map cEx))) (.one (.gsE rfl)) ?_;refine AOps.lessO ⟨3,[],ou⟩ rfl (fun i o ho=>?_) ?_
 ·cases i with
  |l m=>cases ho
  |o m=>
   have ho':ou m=some o:=ho;show ouS (updO ou kw (.cells [fnW kw ko])) ko kt' _ m=some o;have e1:m≠ko:=fun e=>by rw[e,hko]at ho';cases ho'
   have e2:kw≠m:=fun e=>by rw[←e,hkw]at ho';cases ho'
   have e3:m≠kt':=fun e=>by rw[←e,Q05 _ e2]at h1;rw[h1]at ho';cases ho'
   rw[Q4x e1 e3,Q05 _ e2];exact ho'
 refine zA ?_;exact Q09.fin rfl (Z7h rfl) zsy hou rfl
theorem List_ok(hΓ:GI Γ)(t:Tr)(ht:okT t)(hsz:(Q0c [] t).length<=1048576):Q09 Tryz.prog Γ 32 [.one (.box (cTr t))] (.one (.sl 5 ((Q0c [] t).map cEx))):=Qu2 hΓ t ht zoy
end Go.Proofs.YtlmokgooijbcdaaGreatDoor
namespace Go.CoreX
def addB (β:Int->Int)(l:List Int):Int->Int:=fun k=>β k+l.count k
mutual
def occB (β:Int->Int):Tr->List Int
 |.mk o n b k a=>(if o=0/\β n=0 then [n]else [])++Q87 β o b a 0 k
def Q87 (β:Int->Int)(o:Int)(b:List Int)(a:List Alt):Nat->List Tr->List Int
 |_,[]=>[]
 |i,t::ts=>occB (addB β (Q48 o b a i)) t++Q87 β o b a (i+1) ts
end
theorem Qdx(β:Int->Int)(o:Int)(b:List Int)(a:List Alt)(t:Tr):∀(l:List Tr)(i:Nat),Q87 β o b a i (l++[t])=Q87 β o b a i l++occB (addB β (Q48 o b a (i+l.length:Nat))) t
 |[],i=>by simp[Q87]
 |x::l,i=>by simp only[Z3g,Q87,Qdx β o b a t l (i+1),Z3e,Z4h];rw[show i+1+l.length=i+(l.length+1) by omega]
theorem mx_le(m:Int):∀l:List Int,m<=l.foldl mx m
 |[]=>by simp
 |d::l=>by
  have:=mx_le (mx m d) l;have:m<=mx m d:=by unfold mx;split <;> omega
  simp only[Z3z];omega
theorem mx_mem:∀(l:List Int)(m d:Int),d∈l->d<=l.foldl mx m
 |x::l,m,d,h=>by
  simp only[Z3z];rcases Z53.1 h with rfl|h
  ·have h1:=mx_le (mx m d) l;have:d<=mx m d:=by unfold mx;split <;> omega
   omega
  ·exact mx_mem l _ d h
theorem Qqs{o:Int}{ks:List Tr}{t:Tr}(h:t∈ks):Q3x t+1<=Q3x (.mk o n b ks a):=by simp only[Q3x,Qad];have:=mx_mem (ks.map Q3x) 0 (Q3x t) (Z5b h);omega
theorem Qhv:∀t:Tr,1<=Q3x t
 |.mk o n b ks a=>by simp only[Q3x];have:=mx_le 0 (Qcy ks);omega
end Go.CoreX
namespace Go.Proofs.YtlmokgooijbcdaaGreatDoor
variable {Γ:List (Nat×List AC)}
def BIs (β:Int->Int)(ck:Nat)(l:List (Nat×Int×Int)):Prop:=∃f,IMOk f ck l/\∀k,(f k).getD 0=β k
theorem BIs.put{f:Int->Option Int}(hf:∀k,(f k).getD 0=β k)(n v:Int):∀k,(setF f n v k).getD 0=if n=k then v else β k:=fun k=>by
 unfold setF;by_cases e:n=k
 ·rw[if_pos e,if_pos e];rfl
 ·rw[if_neg e,if_neg e];exact hf k
def ouB (cb:Nat)(lb:List (Nat×Int×Int))(co:Nat)(lo:List (Nat×Int×Unit)):Q03:=ouOf [.map cb (encI eN lb),.map co (encI eU lo)]
theorem Qc8(cb:Nat)(lb:List (Nat×Int×Int))(co:Nat)(lo:List (Nat×Int×Unit)):OuOk (ouB cb lb co lo):=by
 intro k o h
 match k,h with
 |0,h=>cases h;exact Qfr _ _ _
 |1,h=>cases h;exact Qlf _ _ _
 |k+2,h=>cases h
theorem Qbd(cb cb':Nat)(lb lb':List (Nat×Int×Int))(co:Nat)(lo:List (Nat×Int×Unit)):(fun j=>bif Nat.beq j 0 then some (AObj.map cb' (encI eN lb'))else ouB cb lb co lo j)=ouB cb' lb' co lo:=by
 funext j
 match j with
 |0=>rfl
 |1=>rfl
 |k+2=>rfl
theorem Qkn(cb:Nat)(lb:List (Nat×Int×Int))(co co':Nat)(lo lo':List (Nat×Int×Unit)):(fun j=>bif Nat.beq j 1 then some (AObj.map co' (encI eU lo'))else ouB cb lb co lo j)=ouB cb lb co' lo':=by
 funext j
 match j with
 |0=>rfl
 |1=>rfl
 |k+2=>rfl
def FreeOk (Γ:List (Nat×List AC))(t:Tr):Prop:=∀(β:Int->Int)(m:Int)(cb:Nat)(lb:List (Nat×Int×Int))(co:Nat)(lo:List (Nat×Int×Unit))(S:List Int),(∀k,0<=β k/\β k<=m)->m+Q3x t * 1048576<=4611686018427387904->BIs β cb lb->SetIs S co lo->
 AFn Tryz.prog Γ 116 [.one (.box (cTr t)),.one (.mp (.o 0)),.one (.mp (.o 1))] (ouB cb lb co lo) (fun r ou'=>r=.tup []/\∃cb' lb' co' lo',ou'=ouB cb' lb' co' lo'/\BIs β cb' lb'/\SetIs (S++occB β t) co' lo')
theorem Qni{o:Int}(hb:b.length<=1048576)(ha:∀x∈a,x.binds.length<=1048576):(Q48 o b a k).length<=1048576:=by
 unfold Q48;split
 ·exact hb
 ·split
  ·rename_i h1 h2;obtain⟨x,hx⟩:=Q02 (l:=a) (i:=(k - 1).toNat) zoy;rw[Z42,hx];exact ha x (Z5c hx)
  ·simp
theorem Qr9{l:List Int}(h:l[j]?=some n)(k:Int):addB β (l.take (j+1)) k=if n=k then addB β (l.take j) n+1 else addB β (l.take j) k:=by
 unfold addB;rw[Q0u h,Z3h];by_cases e:n=k
 ·subst e;simp;omega
 ·rw[if_neg e];have:[n].count k=0:=by simp[Z3i,e]
  omega
theorem Qra{l:List Int}(h:l[j]?=some n)(k:Int):addB β (l.drop (j+1)) k=if n=k then addB β (l.drop j) n - 1 else addB β (l.drop j) k:=by
 have hd:l.drop j=n::l.drop (j+1):=by obtain⟨h1,h2⟩:=Z49.1 h;rw[Z3k h1,h2]
 unfold addB;rw[hd,Z3i,Z3i];by_cases e:n=k
 ·subst e;simp;omega
 ·rw[if_neg e];have:(n==k)=false:=by simpa using e
  rw[this];simp
theorem Qjq{l:List Int}(h:∀k,0<=β k/\β k<=m)(hl:l.length<=1048576)(k:Int):0<=addB β l k/\addB β l k<=m+1048576:=by have h1:=h k;have h2:=List.count_le_length (a:=k) (l:=l);unfold addB;omega
theorem Qqf(hΓ:GI Γ):∀t:Tr,okT t->FreeOk Γ t
 |.mk o n b ks a,hok=>by
  obtain⟨hb,hk,ha,⟨hab,_⟩,hks⟩:=hok;have ih:∀t∈ks,FreeOk Γ t:=fun t ht=>Qqf hΓ t (Q3n.1 hks t ht);intro β m cb lb co lo S hβ hd ⟨f,hf,hfb⟩ ⟨g,hg,hgs⟩;refine zwk 73 Tryz.func116 fun hou=>?_;iterate 1 (refine zO ?_)
  refine Qvy hΓ (α:=Nat×List (Nat×Int×Unit)) (fun _=>[(2,.one (.mp (.o 1))),(1,.one (.mp (.o 0))),(0,.one (.box (cTr (.mk o n b ks a))))])
   (fun c=>⟨0,[],ouB cb lb c.1 c.2⟩) (fun c=>SetIs (S++if o=0/\β n=0 then [n]else []) c.1 c.2) ?_ fun c hc=>?_
  ·by_cases ho:o=0
   ·subst ho;repeat' first|refine zN ?_|(with_reducible refine oj ?_;refine Qvi rfl rfl rfl rfl (fun hb=>?_) (fun hb=>?_))|(with_reducible refine ok ?_;first|refine Qwd rfl (fun hb=>?_) (fun hb=>?_)|refine Q00.cond rfl (fun hb=>?_) (fun hb=>?_))
    all_goals first
     |(exfalso;simp at hb;done)
     |skip
    refine zS (Qxw eN (cm:=false) (v:=.one (int (β n))) rfl Z7f Z7d rfl rfl rfl zky Qnp hf (by simp only[Qxo];rw[←hfb n];cases f n <;> rfl)) ?_;refine zA ?_;refine Q00.cond rfl (fun hb=>?_) (fun hb=>?_)
    ·have h0:β n=0:=by simpa using hb
     refine zA ?_;refine zS (Qw8 rfl Tryz.underlying198 zky) ?_;refine Qxv eU (v:=()) rfl rfl rfl Z7c Z7d rfl rfl rfl rfl hg fun ck' l' hf'=>?_;refine zA ?_;exact cInv ⟨(ck',l'),id,⟨_,hf',by rw[if_pos ⟨rfl,h0⟩];exact Qim hgs n⟩,Z39 rfl zFS zsy .nil rfl (Qkn cb lb co ck' lo l').symm (by rw[show (St.set ⟨0,[],ouB cb lb co lo⟩ (.o 1) (.map ck' (encI eU l'))).ou=ouB cb lb ck' l' from Qkn cb lb co ck' lo l'];exact Qc8 _ _ _ _)⟩
    ·have h0:¬β n=0:=by simpa using hb
     refine zA ?_;exact cInv ⟨(co,lo),id,⟨g,hg,by rw[if_neg (fun h=>h0 h.2)];simpa using hgs⟩,Z39 rfl zFS zsy .nil rfl rfl hou⟩
   ·have hcd:((Tr.mk o n b ks a).op==0)=false:=by simpa using ho
    repeat' first|refine zN ?_|(with_reducible refine oj ?_;refine Qvi rfl rfl rfl rfl (fun hb=>?_) (fun hb=>?_))|(with_reducible refine ok ?_;first|refine Qwd rfl (fun hb=>?_) (fun hb=>?_)|refine Q00.cond rfl (fun hb=>?_) (fun hb=>?_))
    all_goals first
     |(exfalso;rw[hcd]at hb;cases hb;done)
     |exact cInv ⟨(co,lo),id,⟨g,hg,by rw[if_neg (fun h=>ho h.1)];simpa using hgs⟩,Z39 rfl zFS zsy .nil rfl rfl hou⟩
  ·obtain⟨co,lo⟩:=c;simp only at hc;clear hgs hg g hou;have hou:OuOk (ouB cb lb co lo):=Qc8 _ _ _ _;refine zA ?_;refine Qv6 hΓ (α:=Nat×(Nat×List (Nat×Int×Int))×(Nat×List (Nat×Int×Unit))) (fun c=>[(38,.one (int c.1)),(37,.one (int (Q1a ks).length)),(36,.one (.sl 1 (Q1a ks))),(2,.one (.mp (.o 1))),(1,.one (.mp (.o 0))),(0,.one (.box (cTr (.mk o n b ks a))))])
    (fun c=>⟨0,[],ouB c.2.1.1 c.2.1.2 c.2.2.1 c.2.2.2⟩) (fun m c=>c.1<=ks.length/\BIs β c.2.1.1 c.2.1.2/\SetIs (S++(if o=0/\β n=0 then [n]else [])++Q87 β o b a 0 (ks.take c.1)) c.2.2.1 c.2.2.2/\m=ks.length - c.1)
    (a0:=(0,(cb,lb),(co,lo))) (ρ:=id) ⟨by omega,⟨f,hf,hfb⟩,by simpa[Q87]using hc,rfl⟩ (Z39 rfl zFS zsy .nil rfl rfl hou) fun m' c hi=>?_
   clear hc hf hfb f hou;obtain⟨i,⟨cb,lb⟩,co,lo⟩:=c;obtain⟨hil,hB,hS,rfl⟩:=hi;simp only at hil hB hS;have hou:OuOk (ouB cb lb co lo):=Qc8 _ _ _ _;refine zA ?_;refine Q00.cond rfl (fun hb2=>?_) (fun hb2=>?_)
   ·have hlt:i < ks.length:=by simpa using hb2
    obtain⟨t,ht⟩:=Q02 hlt;have htm:=Z5c ht;have hbn:=Qu9 hΓ (.mk o n b ks a) (i:Int) zoy ha;have hll:=Qni (o:=o) (k:=(i:Int)) hb hab;have hsn:=Qdx β o b a t (ks.take i) 0;rw[←Q0u ht]at hsn;have hmin:(ks.take i).length=i:=by simp;omega
    rw[hmin,Z6l]at hsn;simp only[Qxn,Qxp,Qxr]at hbn;generalize Q48 o b a (i:Int)=l at hbn hll hsn;have hdk:=Qqs (o:=o) (n:=n) (b:=b) (a:=a) htm;refine zA ?_;refine zS (zIA rfl rfl rfl zoy (Q1x ht)) ?_;refine zA ?_;refine zca hΓ hbn hou ?_;refine zA ?_;refine Qv6 hΓ (α:=Nat×Nat×List (Nat×Int×Int)) (fun c=>[(48,.one (int c.1)),(47,.one (int (l.map cI).length)),(46,.one (.sl 1 (l.map cI))),(8,.one (.sl 1 (l.map cI))),(7,.one (.box (cTr t))),(38,.one (int i)),(37,.one (int (Q1a ks).length)),(36,.one (.sl 1 (Q1a ks))),(2,.one (.mp (.o 1))),(1,.one (.mp (.o 0))),(0,.one (.box (cTr (.mk o n b ks a))))])
     (fun c=>⟨0,[],ouB c.2.1 c.2.2 co lo⟩) (fun m c=>c.1<=l.length/\BIs (addB β (l.take c.1)) c.2.1 c.2.2/\m=l.length - c.1) (a0:=(0,cb,lb)) (ρ:=id) ⟨by omega,by simpa[BIs,addB]using hB,rfl⟩ (Z39 rfl zFS zsy .nil rfl rfl hou) fun m' c hj=>?_
    clear hB hou;obtain⟨j,cb,lb⟩:=c;obtain⟨hjl,⟨f,hf,hfb⟩,rfl⟩:=hj;simp only at hjl hf hfb;have hou:OuOk (ouB cb lb co lo):=Qc8 _ _ _ _;refine zA ?_;refine Q00.cond rfl (fun hb3=>?_) (fun hb3=>?_)
    ·have Qz9:j < l.length:=by simpa using hb3
     obtain⟨q,hq⟩:=Q02 Qz9;have hv:=Qjq (l:=l.take j) hβ zuy q;have hdp:=Qhv t;refine zA ?_;refine zS (zIA rfl rfl rfl zoy (Q0f hq)) ?_;refine zA ?_;refine zS (Qxw eN (cm:=false) (v:=.one (int (addB β (l.take j) q))) rfl Z7f Z7d rfl rfl rfl zky Qnp hf (by rw[←hfb q];cases f q <;> rfl)) ?_;refine zS (Qus rfl rfl rfl (.inl ⟨rfl,rfl⟩) zI) ?_;refine Qxv eN (v:=addB β (l.take j) q+1) rfl rfl rfl Z7f Z7d rfl rfl rfl rfl hf fun ck' l' hf'=>?_;refine zM ?_;refine cInv ⟨l.length - (j+1),(j+1,ck',l'),id,by omega,⟨by omega,⟨_,hf',fun k=>?_⟩,rfl⟩,Z39 rfl zFS zsy .nil rfl (Qbd cb ck' lb l' co lo).symm (by rw[show (St.set ⟨0,[],ouB cb lb co lo⟩ (.o 0) (.map ck' (encI eN l'))).ou=ouB ck' l' co lo from Qbd cb ck' lb l' co lo];exact Qc8 _ _ _ _)⟩;rw[BIs.put hfb,Qr9 hq]
    have Qz9:j=l.length:=by simp at hb3;omega
    subst Qz9;rw[Z5w]at hfb;have hcall:=ih t htm (addB β l) (m+1048576) cb lb co lo (S++(if o=0/\β n=0 then [n]else [])++Q87 β o b a 0 (ks.take i)) (Qjq hβ hll) zoy ⟨f,hf,hfb⟩ hS;clear hf hfb f;refine zA ?_;refine Qv3 hΓ rfl rfl rfl rfl rfl rfl rfl zsy hou hcall fun r ou' hq Qz6 Z0n=>?_;obtain⟨rfl,cb,lb,co,lo,rfl,hB,hS2⟩:=hq;rw[Z3e,←hsn]at hS2;refine zA ?_;refine Qv6 hΓ (α:=Nat×Nat×List (Nat×Int×Int)) (fun c=>[(63,.one (int c.1)),(62,.one (int (l.map cI).length)),(61,.one (.sl 1 (l.map cI))),(38,.one (int i)),(37,.one (int (Q1a ks).length)),(36,.one (.sl 1 (Q1a ks))),(2,.one (.mp (.o 1))),(1,.one (.mp (.o 0))),(0,.one (.box (cTr (.mk o n b ks a))))])
     (fun c=>⟨0,[],ouB c.2.1 c.2.2 co lo⟩) (fun m c=>c.1<=l.length/\BIs (addB β (l.drop c.1)) c.2.1 c.2.2/\m=l.length - c.1) (a0:=(0,cb,lb)) (ρ:=id) ⟨by omega,by simpa using hB,rfl⟩ (Z39 rfl zFS zsy .nil rfl rfl Z0n) fun m' c hj=>?_
    clear hB hou Z0n;obtain⟨j,cb,lb⟩:=c;obtain⟨hjl,⟨f,hf,hfb⟩,rfl⟩:=hj;simp only at hjl hf hfb;have hou:OuOk (ouB cb lb co lo):=Qc8 _ _ _ _;refine zA ?_;refine Q00.cond rfl (fun hb4=>?_) (fun hb4=>?_)
    ·have Qz9:j < l.length:=by simpa using hb4
     obtain⟨q,hq⟩:=Q02 Qz9;have hv:=Qjq (l:=l.drop j) hβ zuy q;have hdp:=Qhv t;refine zA ?_;refine zS (zIA rfl rfl rfl zoy (Q0f hq)) ?_;refine zA ?_;refine zS (Qxw eN (cm:=false) (v:=.one (int (addB β (l.drop j) q))) rfl Z7f Z7d rfl rfl rfl zky Qnp hf (by rw[←hfb q];cases f q <;> rfl)) ?_;refine zS (Qus rfl rfl rfl (.inr (.inl ⟨rfl,rfl⟩)) zI) ?_;refine Qxv eN (v:=addB β (l.drop j) q - 1) rfl rfl rfl Z7f Z7d rfl rfl rfl rfl hf fun ck' l' hf'=>?_;refine zM ?_;refine cInv ⟨l.length - (j+1),(j+1,ck',l'),id,by omega,⟨by omega,⟨_,hf',fun k=>?_⟩,rfl⟩,Z39 rfl zFS zsy .nil rfl (Qbd cb ck' lb l' co lo).symm (by rw[show (St.set ⟨0,[],ouB cb lb co lo⟩ (.o 0) (.map ck' (encI eN l'))).ou=ouB ck' l' co lo from Qbd cb ck' lb l' co lo];exact Qc8 _ _ _ _)⟩;rw[BIs.put hfb,Qra hq]
    ·have Qz9:j=l.length:=by simp at hb4;omega
     subst Qz9;rw[List.drop_length]at hfb;refine zM ?_;exact cInv ⟨ks.length - (i+1),(i+1,(cb,lb),(co,lo)),id,by omega,⟨by omega,⟨f,hf,fun k=>by rw[hfb k];simp[addB]⟩,hS2,rfl⟩,Z39 rfl zFS zsy .nil rfl rfl hou⟩
   ·have hlt:i=ks.length:=by simp at hb2;omega
    subst hlt;rw[Z5w,Z3e]at hS;refine zA ?_;exact Qwm rfl (Z7i _) zsy hou ⟨rfl,cb,lb,co,lo,rfl,hB,by simpa only [occB]using hS⟩
end Go.Proofs.YtlmokgooijbcdaaGreatDoor
namespace Go.CoreX
theorem Q89(n k:Int):∀l:List Int,k∈Q6s n l↔k=n∨k∈l
 |[]=>by simp[Q6s]
 |m::l=>by
  simp only[Q6s];split
  ·simp
  ·split
   ·rename_i h1 h2;subst h2;simp
   ·simp only[Z53,Q89 n k l];constructor
    ·rintro (h|h|h) <;> simp[h]
    ·rintro (h|h|h) <;> simp[h]
theorem Q7v(n:Int):∀l:List Int,l.Pairwise (· < ·)->(Q6s n l).Pairwise (· < ·)
 |[],_=>by simp[Q6s]
 |m::l,h=>by
  simp only[Z5n]at h;simp only[Q6s];split
  ·rename_i h1;simp only[Z5n,Z53,forall_eq_or_imp];exact⟨⟨h1,fun a ha=>by have:=h.1 a ha;omega⟩,h.1,h.2⟩
  ·split
   ·simp only[Z5n];exact h
   ·rename_i h1 h2;simp only[Z5n];refine⟨fun a ha=>?_,Q7v n l h.2⟩;rcases (Q89 n a l).1 ha with rfl|ha
    ·omega
    ·exact h.1 a ha
theorem Q8l(k:Int):∀l:List Int,k∈Qf1 l↔k∈l
 |[]=>by simp[Qf1]
 |n::l=>by have ih:=Q8l k l;unfold Qf1 at ih ⊢;rw[List.foldr_cons,Q89,ih,Z53]
theorem Q6i:∀l:List Int,(Qf1 l).Pairwise (· < ·)
 |[]=>by simp[Qf1]
 |n::l=>by have ih:=Q6i l;unfold Qf1 at ih ⊢;rw[List.foldr_cons];exact Q7v n _ ih
theorem Q8k:∀{l r:List Int},l.Pairwise (· < ·)->r.Pairwise (· < ·)->(∀k,k∈l↔k∈r)->l=r
 |[],[],_,_,_=>rfl
 |[],b::r,_,_,h=>by have:=(h b).2 zsy;simp at this
 |a::l,[],_,_,h=>by have:=(h a).1 zsy;simp at this
 |a::l,b::r,hl,hr,h=>by
  simp only[Z5n]at hl hr;have hab:a=b:=by
   have h1:=(h a).1 zsy;have h2:=(h b).2 zsy;rcases Z53.1 h1 with h1|h1
   ·exact h1
   ·rcases Z53.1 h2 with h2|h2
    ·exact h2.symm
    ·have:=hr.1 a h1;have:=hl.1 b h2;omega
  subst hab;congr 1;refine Q8k hl.2 hr.2 fun k=>⟨fun hk=>?_,fun hk=>?_⟩
  ·rcases Z53.1 ((h k).1 (Z54 _ hk))with e|e
   ·have:=hl.1 k hk;omega
   ·exact e
  ·rcases Z53.1 ((h k).2 (Z54 _ hk))with e|e
   ·have:=hr.1 k hk;omega
   ·exact e
theorem sort_eq{keys m:List Int}(hn:keys.Nodup)(h:∀k,k∈keys↔k∈m):(keys.mergeSort fun x y=>decide (x<=y))=Qf1 m:=by
 have hp:=List.mergeSort_perm keys (fun x y:Int=>decide (x<=y));have hs:(keys.mergeSort fun x y=>decide (x<=y)).Pairwise (fun x y=>decide (x<=y)=true):=List.pairwise_mergeSort (fun a b c h1 h2=>by simp only[decide_eq_true_eq]at *;omega) (fun a b=>by simp only[Z34,decide_eq_true_eq];omega) keys;have hd:(keys.mergeSort fun x y=>decide (x<=y)).Nodup:=hp.nodup_iff.2 hn;refine Q8k ?_ (Q6i m) fun k=>?_
 ·have:=hs.and hd;refine this.imp fun {a b} hab=>?_;have h1:=of_decide_eq_true hab.1;have h2:=hab.2;omega
 ·rw[Q8l,←h k];exact hp.mem_iff
mutual
theorem occ_eq:∀(t:Tr)(sc:List Int)(β:Int->Int),(∀k,β k=0↔sc.contains k=false)->(∀k,0<=β k)->occT sc t=occB β t
 |.mk o n b k a,sc,β,h,h0=>by
  simp only[occT,occB];rw[Qov k sc β o b a 0 h h0];congr 1;by_cases e:o=0/\β n=0
  ·rw[if_pos e,if_pos ⟨e.1,(h n).1 e.2⟩]
  ·rw[if_neg e,if_neg (fun h2=>e ⟨h2.1,(h n).2 h2.2⟩)]
theorem Qov:∀(l:List Tr)(sc:List Int)(β:Int->Int)(o:Int)(b:List Int)(a:List Alt)(i:Nat),(∀k,β k=0↔sc.contains k=false)->(∀k,0<=β k)->Qow sc o b a i l=Q87 β o b a i l
 |[],_,_,_,_,_,_,_,_=>by simp[Qow,Q87]
 |t::l,sc,β,o,b,a,i,h,h0=>by
  simp only[Qow,Q87];rw[Qov l sc β o b a (i+1) h h0,occ_eq t (Q48 o b a i++sc) (addB β (Q48 o b a i)) (fun k=>?_) (fun k=>?_)]
  ·unfold addB;have h1:=h k;have h2:=h0 k;have h3:(Q48 o b a i).count k=0↔(Q48 o b a i).contains k=false:=by rw[Z3j];simp
   simp only[List.contains_eq_mem,Z50,decide_eq_false_iff_not,not_or]at *;constructor
   ·intro h4;exact⟨h3.1 zoy,h1.1 zoy⟩
   ·rintro⟨h4,h5⟩;have:=h3.2 h4;have:=h1.2 h5;omega
  ·unfold addB;have:=h0 k;omega
end
theorem Qct(t:Tr):Q5e t=Qf1 (occB (fun _=>0) t):=by unfold Q5e;rw[occ_eq t [] (fun _=>0) (fun k=>by simp) (fun k=>by simp)]
theorem Qfg{α:Type} [DecidableEq α]:∀{l m:List α},l.Nodup->(∀x∈l,x∈m)->l.length<=m.length
 |[],m,_,_=>by simp
 |a::l,m,hn,h=>by
  simp only[Z5l]at hn;have ha:=h a zsy;have:=Qfg (l:=l) (m:=m.erase a) hn.2 fun x hx=>by have hne:x≠a:=fun e=>hn.1 (e▸hx);exact (List.mem_erase_of_ne hne).2 (h x (by simp[hx]))
  rw[List.length_erase_of_mem ha]at this;have:=List.length_pos_of_mem ha;simp only[Z4h];omega
mutual
theorem Qfd:∀(t:Tr)(β:Int->Int)(out:List Ex),(occB β t).length+out.length<=(Q0c out t).length
 |.mk o n b k a,β,out=>by have:=Qh2 k β o b a 0 out;simp only[occB,Q0c,Z4g,Z4o];split <;> simp <;> omega
theorem Qh2:∀(l:List Tr)(β:Int->Int)(o:Int)(b:List Int)(a:List Alt)(i:Nat)(out:List Ex),(Q87 β o b a i l).length+out.length<=(Q06 out l).1.length
 |[],_,_,_,_,_,out=>by simp[Q87,Q06]
 |t::l,β,o,b,a,i,out=>by have h1:=Qfd t (addB β (Q48 o b a i)) out;have h2:=Qh2 l β o b a (i+1) (Q0c out t);simp only[Q87,Q06,Z4g];omega
end
end Go.CoreX
namespace Go.Proofs.YtlmokgooijbcdaaGreatDoor
open Go Go.Abs Go.CoreX Go.Sort
variable {Γ:List (Nat×List AC)}
def SortOk:Prop:=∀(blk off cap:Nat)(zs:List Int)(w:World),Holds (Value.int .i64) w blk off zs.toArray->blk < w.heap.size->zs.length < 4611686018427387904->Calls Tryz.prog 117 #[.slice (some ⟨blk,off,none⟩) zs.length cap] w fun e w'=>
 e=.returned (.tuple #[])/\∃n os,w'=grow (putRow (Value.int .i64) (Sort.ahead w n) blk off (zs.mergeSort fun x y=>decide (x<=y)).toArray) os
def Qre:Prop:=∀w:World,Calls Tryz.prog 117 #[.slice none 0 0] w fun e w'=>e=.returned (.tuple #[])/\w'=w
theorem Qdm(us:Array Value)(w:World):(callFunc 117 us).run Tryz.prog w=.ok (.enter 117 us) w:=by have h1:Tryz.prog.funcs[117]?=some Tryz.f117:=Tryz.func117;simp[callFunc,h1];rfl
def Qmq (l:List (Nat×Int×Unit))(seen:List Nat):Nat:=(l.filter fun x=>decide (x.1∉seen)).length
theorem Qe1{l:List (Nat×Int×Unit)}{seen:List Nat}{x:Nat×Int×Unit}(hx:x∈l)(hb:x.1∉seen):Qmq l (seen++[x.1]) < Qmq l seen:=by
 unfold Qmq
 induction l with
 |nil=>cases hx
 |cons y l ih=>
  have Z1x:∀l:List (Nat×Int×Unit),(l.filter fun z=>decide (z.1∉seen++[x.1])).length<=(l.filter fun z=>decide (z.1∉seen)).length:=fun l=>by
   induction l with
   |nil=>simp
   |cons z l ih=>
    simp only[List.filter_cons];split <;> split <;> simp_all <;> omega
  simp only[List.filter_cons];rcases Z53.1 hx with rfl|hx
  ·have:=Z1x l;rw[if_neg zsy,if_pos (by simpa using hb)];simp only[Z4h];omega
  ·have:=ih hx;split <;> split <;> simp_all <;> omega
theorem pair_of{l:List (Nat×Int×Unit)}(hk:(l.map (·.2.1)).Nodup){x:Nat×Int×Unit}(hx:x∈l)(hy:y∈l)(h:x.2.1=y.2.1):x=y:=by
 induction l with
 |nil=>cases hx
 |cons z l ih=>
  simp only[Z4t,Z5l]at hk;rcases Z53.1 hx with e1|h1
  ·rcases Z53.1 hy with e2|h2
   ·rw[e1,e2]
   ·exact absurd (Z5a.2 ⟨y,h2,by rw[←h,e1]⟩:z.2.1∈l.map (·.2.1)) hk.1
  ·rcases Z53.1 hy with e2|h2
   ·exact absurd (Z5a.2 ⟨x,h1,by rw[h,e2]⟩:z.2.1∈l.map (·.2.1)) hk.1
   ·exact ih hk.2 h1 h2
theorem Qe3{l zs:List (Nat×Int×Unit)}(hk:(l.map (·.2.1)).Nodup):∀{zs:List (Nat×Int×Unit)},(∀x∈zs,x∈l)->(zs.map (·.1)).Nodup->(zs.map (·.2.1)).Nodup
 |[],_,_=>by simp
 |x::zs,h,hn=>by simp only[Z4t,Z5l]at hn ⊢;refine⟨fun hm=>?_,Qe3 (zs:=zs) hk (fun y hy=>h y (by simp[hy])) hn.2⟩;obtain⟨y,hy,e⟩:=Z5a.1 hm;have:=pair_of hk (h x zsy) (h y (by simp[hy])) e.symm;exact hn.1 (Z5a.2 ⟨y,hy,by rw[this]⟩)
@[simp] theorem ids_vecI (p : Abs.Id -> Prop) (l : List Int) (cap : Nat) : idsL p (vec 1 (l.map cI) cap) := by
 unfold vec;have e:(l.map cI).flatten=l.map int:=by
  induction l with
  |nil=>rfl
  |cons n l ih=>simp only[Z4t,Z3x,ih];rfl
 rw[e];refine Q8y (Qfs p l) ?_;generalize (cap - (l.map cI).length) * 1=q
 induction q with
 |zero=>simp
 |succ q ih=>rw[Z5p];exact⟨trivial,ih⟩
@[simp] theorem Qru (θ:Abs.Id->Abs.Id) (ck:Nat) (l:List (Nat×Int×Unit)):AObj.sub θ (.map ck (encI eU l))=.map ck (encI eU l):=by simp[AObj.sub,encI,eU,FV.sub,subL,Function.comp_def]
theorem Qhr{β:Type}{enc:β->FV}{f:Int->Option β}{l:List (Nat×Int×β)}(h:IMOk f ck l):∀x∈encI enc l,x.1 < ck:=fun x hx=>by simp only[encI,Z5a]at hx;obtain⟨y,hy,rfl⟩:=hx;exact h.born y hy
theorem Qls{β:Type}{enc:β->FV}{l:List (Nat×Int×β)}:∀x∈encI enc l,x.2.1.oneCell'=true:=fun x hx=>by simp only[encI,Z5a]at hx;obtain⟨y,hy,rfl⟩:=hx;rfl
theorem Qcx{β:Type}{enc:β->FV}:∀{l:List (Nat×Int×β)}{x:Nat×Int×β},(l.map (·.1)).Nodup->x∈l->(encI enc l).find? (fun y=>y.1==x.1)=some (x.1,.int .i64 x.2.1,enc x.2.2)
 |y::l,x,hn,hx=>by
  simp only[Z4t,Z5l]at hn;rcases Z53.1 hx with rfl|h
  ·simp[encI]
  ·have hne:y.1≠x.1:=fun e=>hn.1 (Z5a.2 ⟨_,h,e.symm⟩);have:=Qcx (enc:=enc) hn.2 h;simp only[encI,Z4t,Z3s]at this ⊢;rw[beq_eq_false_iff_ne.2 hne];exact this
theorem Qr1{l:List (Nat×Int×Unit)}(hk:(l.map (·.1)).Nodup){x:Nat×Int×Unit}(hx:x∈l)(hy:y∈l)(h:x.1=y.1):x=y:=by
 induction l with
 |nil=>cases hx
 |cons z l ih=>
  simp only[Z4t,Z5l]at hk;rcases Z53.1 hx with e1|h1
  ·rcases Z53.1 hy with e2|h2
   ·rw[e1,e2]
   ·exact absurd (Z5a.2 ⟨y,h2,by rw[←h,e1]⟩:z.1∈l.map (·.1)) hk.1
  ·rcases Z53.1 hy with e2|h2
   ·exact absurd (Z5a.2 ⟨x,h1,by rw[h,e2]⟩:z.1∈l.map (·.1)) hk.1
   ·exact ih hk.2 h1 h2
theorem Qla{f:Int->Option Unit}{l:List (Nat×Int×Unit)}(h:IMOk f ck l)(k:Int):(f k).isSome=true↔∃x∈l,x.2.1=k:=by
 rw[←h.look k];cases hf:l.find? (fun x=>x.2.1==k) with
 |none=>
  simp only[Z6w,Option.isSome_none,Z2y,false_iff];rintro⟨x,hx,e⟩;have:=Z3t.1 hf x hx;simp[e]at this
 |some x=>
  simp only[Z6x,Option.isSome_some,true_iff];have h1:=List.find?_some hf;exact⟨x,List.mem_of_find?_eq_some hf,by simpa using h1⟩
def keyL (zs:List (Nat×Int×Unit)):List Int:=zs.map (·.2.1)
def Qah (zs:List (Nat×Int×Unit)):List Nat:=zs.map (·.1)
theorem Qrh(hΓ:GI Γ)(hΓF:∀g cs,(g,cs)∈Γ->idsL (fun _=>False) cs)(hs:SortOk)(hn:Qre)(t:Tr)(ht:okT t)(hd:Q3x t<=1048576)(hsz:(Q0c [] t).length<=1048576):
  Q09 Tryz.prog Γ 90 [.one (.box (cTr t))] (.one (.sl 1 ((Q5e t).map cI))):=by
 intro ou;refine zwk 24 Tryz.func90 fun hou=>?_;refine zA ?_;refine zS (Q01.makeMap rfl) ?_;refine zA ?_;refine zS (Q01.makeMap rfl) ?_;refine zA ?_;refine Qvl [.l 1,.l 0] [.one (.box (cTr t)),.one (.mp (.o 0)),.one (.mp (.o 1))] [.map 0 (encI eN []),.map 0 (encI eU [])] hΓF rfl rfl rfl rfl rfl rfl ?_ ?_ ?_ ?_ ?_ (Qqf hΓ t ht (fun _=>0) 0 0 [] 0 [] [] (fun k=>by simp) zoy ⟨_,IMOk.nil,fun k=>rfl⟩ SetIs.nil) ?_
 ·simp[subF,FV.sub,AC.sub,nameOf];exact⟨(Q2q _ _ zsy).symm,rfl⟩
 ·simp[inO]
 ·simp
 ·exact⟨rfl,rfl,trivial⟩
 ·simp[inO]
 intro r ou' hq;obtain⟨rfl,cb,lb,co,lo,rfl,hB,g,hg,hgs⟩:=hq;rw[Z5j]at hgs;refine⟨[.map cb (encI eN lb),.map co (encI eU lo)],rfl,rfl,by simp[inO],by simp,?_⟩;refine zA ?_;refine zS (Qvm rfl Z7c rfl rfl) ?_;refine zA ?_;refine Qv6 hΓ (α:=List (Nat×Int×Unit)×Option Nat) (fun a=>[(12,.one (.ptr (.l 2) 0)),(4,match a.2 with|none=>.one (.lit (.slice none 0 0))|some cap=>.one (.arr (.l 3) 1 0 ((keyL a.1).map cI).length cap))])
  (fun a=>match a.2 with|none=>⟨3,[(2,.iter (.l 0) co (Qah a.1) co),(0,.map co (encI eU lo))],ou⟩|some cap=>⟨4,[(3,.cells (vec 1 ((keyL a.1).map cI) cap)),(2,.iter (.l 0) co (Qah a.1) co),(0,.map co (encI eU lo))],ou⟩)
  (fun m a=>(∀x∈a.1,x∈lo)/\(Qah a.1).Nodup/\(match a.2 with|none=>a.1=[]|some cap=>a.1.length<=cap)/\m=Qmq lo (Qah a.1)) (a0:=([],none)) (ρ:=id) ⟨by simp,by simp[Qah],rfl,rfl⟩ (Z39 rfl ?_ ?_ ?_ rfl rfl hou) fun m a hj=>?_
 ·(repeat' first|exact Q0k.nil|refine zfc ?_|refine zfo ?_|refine zfp ?_)
 ·simp
 ·repeat' first|exact Q1b.nil|refine zlc ?_|refine zld ?_ ?_|rfl
  all_goals (rw[Qru,Qf9])
 obtain⟨zs,oc⟩:=a;obtain⟨hzs,hnd,hcap,rfl⟩:=hj;simp only at hzs hnd hcap;have hin:∀k,k∈keyL zs->k∈occB (fun _=>0) t:=fun k hk=>by obtain⟨x,hx,rfl⟩:=Z5a.1 hk;have h1:=(Qla hg x.2.1).2 ⟨x,hzs x hx,rfl⟩;rw[hgs]at h1;simpa using h1
 have hkn:(keyL zs).Nodup:=Qe3 (zs:=zs) hg.nk hzs hnd;have hkl:(keyL zs).length<=1048576:=by have h1:=Qfg hkn hin;have h2:=Qfd t (fun _=>0) [];simp at h2;omega
 have hend':(∀x∈encI eU lo,x.1∈Qah zs)->(keyL zs).mergeSort (fun x y=>decide (x<=y))=Q5e t:=fun hend=>by
  rw[Qct];refine sort_eq hkn fun k=>⟨hin k,fun hk=>?_⟩;have h1:(g k).isSome=true:=by rw[hgs];simpa using hk
  obtain⟨x,hx,rfl⟩:=(Qla hg k).1 h1;have h2:=hend (x.1,.int .i64 x.2.1,eU x.2.2) (Z5a.2 ⟨x,hx,rfl⟩);obtain⟨y,hy,e⟩:=Z5a.1 h2;have:=Qr1 hg.nb (hzs y hy) hx e;subst this;exact Z5a.2 ⟨y,hy,rfl⟩
 cases oc with
 |none=>
  subst hcap;refine zA ?_;refine Qvn rfl rfl rfl rfl rfl rfl rfl (Qhr hg) (Z6b _) Qls (fun hend=>?_) (fun b u v hmem hnew=>?_)
  ·refine zA ?_;refine Qwq rfl rfl rfl rfl rfl rfl Qdm hn ?_;refine zA ?_;have h1:=hend' hend;refine Q09.fin rfl (.trans (.one (.nilS 1)) (.ofEq ?_)) zsy hou rfl;rw[←h1];simp[keyL]
  ·obtain⟨rfl,x,hx,rfl,rfl,_⟩:=(Ql1 _ _ _ _).1 hmem;obtain⟨bx,k,⟨⟩⟩:=x;refine zA ?_;refine zS (Q01.entry (last:=0) (u:=.int .i64 k) (v:=.agg []) rfl rfl rfl rfl (Qcx hg.nb hx) rfl) ?_;refine zA ?_;refine Z2i tabOk rfl rfl rfl rfl rfl rfl rfl rfl rfl (.nil 1) (.sl 1 [cI k]) zsy rfl (by simp;show 1 * 8<=_;omega) zsy fun cap hc=>?_;refine zM ?_;refine cInv ⟨Qmq lo (Qah [(bx,k,())]),([(bx,k,())],some cap),id,Qe1 (x:=(bx,k,())) hx hnew,⟨by simpa using hx,by simp[Qah],by simpa using hc,rfl⟩,Z39 rfl ?_ zsy ?_ rfl rfl hou⟩
   ·exact Q0k.cons rfl (.ofEq rfl) (Q0k.cons rfl (.ofEq rfl) .nil)
   ·refine Q1b.cons rfl ?_ rfl zsy (Q1b.cons rfl ?_ rfl zsy (Q1b.cons rfl (Qf9 _ _ _).symm rfl zsy .nil))
    ·rw[Z2f _ _ zsy];simp[keyL]
    ·simp[AObj.ren,Qah];rfl
 |some cap=>
  refine zA ?_;refine Qvn rfl rfl rfl rfl rfl rfl rfl (Qhr hg) (Z6b _) Qls (fun hend=>?_) (fun b u v hmem hnew=>?_)
  ·have h1:=hend' hend;refine zA ?_;refine Z2n 21 rfl (y:=.one (.arr (.l 3) 1 0 (keyL zs).length cap)) (.ofEq zsy) ?_;refine Qwp (l:=keyL zs) rfl rfl rfl rfl rfl rfl Qdm hs rfl zoy ?_;rw[h1];refine Z2n 4 rfl (y:=.one (.arr (.l 3) 1 0 ((Q5e t).map iC).length cap)) (.ofEq (by rw[←h1];simp)) ?_;refine AOps.freezeArr (.l 3) 4 rfl zsy rfl ?_;refine zA ?_;exact Q09.fin rfl (Z7h rfl) zsy hou rfl
  ·obtain⟨rfl,x,hx,rfl,rfl,_⟩:=(Ql1 _ _ _ _).1 hmem;obtain⟨bx,k,⟨⟩⟩:=x;refine zA ?_;refine zS (Q01.entry (last:=0) (u:=.int .i64 k) (v:=.agg []) rfl rfl rfl rfl (Qcx hg.nb hx) rfl) ?_;refine zA ?_;have hzl:((keyL zs).map cI).length=zs.length:=by simp[keyL]
   refine Z2i tabOk rfl rfl rfl rfl rfl rfl rfl rfl rfl (.own 1 cap ((keyL zs).map cI) (.l 3) rfl (by simp[cI]) (by rw[hzl];exact hcap)) (.sl 1 [cI k]) zsy rfl (by simp;show (_+1) * 8<=_;omega) zuy fun cap' hc=>?_;refine zM ?_;refine cInv ⟨Qmq lo (Qah (zs++[(bx,k,())])),(zs++[(bx,k,())],some cap'),fun k=>if k=3 then 4 else k,by have:=Qe1 (x:=(bx,k,())) hx hnew;simpa[Qah]using this,⟨?_,?_,by simpa[keyL]using hc,rfl⟩,Z39 rfl ?_ zsy ?_ rfl rfl hou⟩
   ·intro y hy;rcases Z50.1 hy with hy|hy
    ·exact hzs y hy
    ·simp at hy;subst hy;exact hx
   ·simp only[Qah,Z4r,Z4t,Z4x];rw[Z5k];refine⟨hnd,by simp,fun a ha b hb e=>?_⟩;simp at hb;subst hb;subst e;exact hnew ha
   ·exact Q0k.cons rfl (.ofEq rfl) (Q0k.cons rfl (.ofEq (by simp[keyL,FV.ren,AC.ren];rfl)) .nil)
   ·refine Q1b.cons rfl ?_ rfl zsy (Q1b.cons rfl ?_ rfl zsy (Q1b.cons rfl (Qf9 _ _ _).symm rfl zsy .nil))
    ·rw[Z2f _ _ zsy];simp[keyL]
    ·simp[AObj.ren,Qah];rfl
end Go.Proofs.YtlmokgooijbcdaaGreatDoor
namespace Go.CoreX
theorem Qdq:∀{l r:List Int}{i:Nat}{x y:Int}{m:Nm},l[i]?=some x->r[i]?=some y->Q83 m (l.take (i+1)) (r.take (i+1))=setN (Q83 m (l.take i) (r.take i)) x y
 |[],_,i,x,y,m,h,_=>by simp at h
 |a::l,[],i,x,y,m,_,h=>by simp at h
 |a::l,b::r,0,x,y,m,h,h'=>by simp at h h';subst h;subst h';simp[Q83]
 |a::l,b::r,i+1,x,y,m,h,h'=>by simp only[Z5y,Q83];exact Qdq (l:=l) (r:=r) (by simpa using h) (by simpa using h')
theorem Qbx:∀{l r:List Tr}{i:Nat}{a b:Tr}{m:Nm},(Q3i l r m).1=true->l[i]?=some a->r[i]?=some b->
  (Q6e a b (Q3i (l.take i) (r.take i) m).2).1=true/\(Q3i (l.take (i+1)) (r.take (i+1)) m).2=(Q6e a b (Q3i (l.take i) (r.take i) m).2).2
 |[],_,i,a,b,m,_,h,_=>by simp at h
 |x::l,[],i,a,b,m,_,_,h=>by simp at h
 |x::l,y::r,0,a,b,m,hs,h,h'=>by
  simp at h h';subst h;subst h';unfold Q3i at hs;by_cases e:(Q6e x y m).1=true
  ·simp[Q3i,e]
  ·simp[e]at hs
 |x::l,y::r,i+1,a,b,m,hs,h,h'=>by
  unfold Q3i at hs;by_cases e:(Q6e x y m).1=true
  ·simp only[e,if_true]at hs;have:=Qbx (l:=l) (r:=r) hs (by simpa using h) (by simpa using h');simp only[Z5y,Q3i,e,if_true];exact this
  ·simp[e]at hs
theorem Qd7:∀{l r:List Alt}{i:Nat}{a b:Alt},Q2z l r=true->l[i]?=some a->r[i]?=some b->a.tag=b.tag/\a.binds.length=b.binds.length
 |[],_,i,a,b,_,h,_=>by simp at h
 |x::l,[],i,a,b,_,_,h=>by simp at h
 |x::l,y::r,0,a,b,hs,h,h'=>by simp at h h';subst h;subst h';simp only[Q2z,Z2w,beq_iff_eq]at hs;exact hs.1
 |x::l,y::r,i+1,a,b,hs,h,h'=>by simp only[Q2z,Z2w]at hs;exact Qd7 hs.2 (by simpa using h) (by simpa using h')
theorem Qb1:∀{l r:List Alt},Q2z l r=true->l.length=r.length->(l.flatMap (·.binds)).length=(r.flatMap (·.binds)).length
 |[],[],_,_=>rfl
 |[],y::r,_,h=>by simp at h
 |x::l,[],_,h=>by simp at h
 |x::l,y::r,hs,h=>by simp only[Q2z,Z2w,beq_iff_eq]at hs;have:=Qb1 hs.2 (by simpa using h);simp only[Z3v,Z4g,this,hs.1.2]
theorem Qi4{o:Int}{b':List Int}{a':List Alt}(hb:b.length=b'.length)(ha:a.length=a'.length)(hl:Q2z a a'=true):(Q0h o b a).length=(Q0h o b' a').length:=by unfold Q0h;rw[Z4g,Z4g,Qb1 hl ha];split <;> simp[hb]
theorem Qm6{o:Int}{ks:List Tr}{t:Tr}{m:Nm}(h:(Q6e (.mk o n b ks a) t m).1=true):
  (o=t.op/\ks.length=t.kids.length/\b.length=t.binds.length/\a.length=t.alts.length)/\
  ((o=0/\Qbw m n t.n=true/\(Q6e (.mk o n b ks a) t m).2=m) ∨
  (o≠0/\n=t.n/\(o=9->b=t.binds)/\Q2z a t.alts=true/\(Q3i ks t.kids (Q83 m (Q0h o b a) (Q0h t.op t.binds t.alts))).1=true/\
   (Q6e (.mk o n b ks a) t m).2=(Q3i ks t.kids (Q83 m (Q0h o b a) (Q0h t.op t.binds t.alts))).2)):=by
 unfold Q6e at h ⊢;by_cases h1:Qk2 o ks.length b.length a.length t=true
 ·rw[if_pos h1]at h;cases h
 rw[if_neg h1]at h ⊢;have h1':o=t.op/\ks.length=t.kids.length/\b.length=t.binds.length/\a.length=t.alts.length:=by simpa[Qk2,and_assoc]using h1
 refine⟨h1',?_⟩;by_cases h2:o=0
 ·rw[if_pos h2]at h ⊢;exact .inl ⟨h2,h,rfl⟩
 rw[if_neg h2]at h ⊢;by_cases h3:((!(n==t.n))||(o==9&&!(b==t.binds)))=true
 ·rw[if_pos h3]at h;cases h
 rw[if_neg h3]at h ⊢;have h3':n=t.n/\(o=9->b=t.binds):=by simpa using h3
 by_cases h4:Q2z a t.alts=false
 ·rw[if_pos h4]at h;cases h
 rw[if_neg h4]at h ⊢;exact .inr ⟨h2,h3'.1,h3'.2,by simpa using h4,h,rfl⟩
end Go.CoreX
namespace Go.Proofs.YtlmokgooijbcdaaGreatDoor
variable {Γ:List (Nat×List AC)}
theorem ints_ne{x y:Int}(h1:xs[j]?=some x)(h2:ys[j]?=some y)(h:x≠y):(xs==ys)=false:=by apply beq_eq_false_iff_ne.2;rintro rfl;rw[h1]at h2;exact h (by simpa using h2)
theorem ints_eq(hl:xs.length=ys.length)(h:∀(j:Nat)(x y:Int),xs[j]?=some x->ys[j]?=some y->x=y):(xs==ys)=true:=by rw[beq_iff_eq];refine List.ext_getElem hl fun i h1 h2=>h i _ _ (Z47 h1) (Z47 h2)
theorem Qu8(hΓ:GI Γ)(xs ys:List Int)(hx:xs.length<=1048576):
  Q09 Tryz.prog Γ 119 [.one (.sl 1 (xs.map cI)),.one (.sl 1 (ys.map cI))] (.one (.lit (.bool (xs==ys)))):=by
 intro ou;refine zwk 26 Tryz.func119 fun hou=>?_;refine zA ?_;refine Q00.cond rfl (fun hb=>?_) (fun hb=>?_)
 ·refine zA ?_;refine Q09.fin rfl (Z7h ?_) zsy hou rfl;have:(xs==ys)=false:=by apply beq_eq_false_iff_ne.2;rintro rfl;simp at hb
  rw[this]
 have hl:xs.length=ys.length:=by simp at hb;omega
 clear hb;refine zA ?_;refine Qv6 hΓ (α:=Nat) (fun j=>[(13,.one (int j)),(12,.one (int (xs.map cI).length)),(1,.one (.sl 1 (ys.map cI))),(0,.one (.sl 1 (xs.map cI)))])
  (fun j=>⟨0,[],ou⟩) (fun m j=>j<=xs.length/\(∀(i:Nat) (x y:Int),i < j->xs[i]?=some x->ys[i]?=some y->x=y)/\m=xs.length - j) (a0:=0) (ρ:=id) ⟨by omega,fun i x y h=>by omega,rfl⟩ (Z39 rfl zFS zsy zLO rfl rfl hou) fun m j hj=>?_
 obtain⟨hjl,hno,rfl⟩:=hj;refine zA ?_;refine Q00.cond rfl (fun hb2=>?_) (fun hb2=>?_)
 ·have hlt:j < xs.length:=by simpa using hb2
  obtain⟨x,hx1⟩:=Q02 hlt;obtain⟨y,hy1⟩:=Q02 (l:=ys) (i:=j) zoy;refine zA ?_;refine zdx 8 [(2,.one (.box (cI x))),(6,.one (.box (cI y)))] ?_ ?_
  ·refine .step rfl (zHP (zIA rfl rfl rfl zoy (Q0f hx1))) ?_;exact .step rfl (zHP (zIA rfl rfl rfl zoy (Q0f hy1))) .nil
  refine zA ?_;refine Q00.cond rfl (fun hb3=>?_) (fun hb3=>?_)
  ·have hne:x≠y:=by simpa using hb3
   refine zA ?_;refine Q09.fin rfl (Z7h ?_) zsy hou rfl;rw[ints_ne hx1 hy1 hne]
  ·have he:x=y:=by simpa using hb3
   refine zM ?_;refine cInv ⟨xs.length - (j+1),j+1,id,by omega,⟨by omega,fun i x' y' hi h1 h2=>?_,rfl⟩,Z39 rfl zFS zsy zLO rfl rfl hou⟩;by_cases e:i=j
   ·subst e;rw[hx1]at h1;rw[hy1]at h2;cases h1;cases h2;exact he
   ·exact hno i x' y' zoy h1 h2
 ·have hlt:j=xs.length:=by simp at hb2;omega
  subst hlt;refine zA ?_;refine Q09.fin rfl (Z7h ?_) zsy hou rfl;rw[ints_eq hl fun i x y h1 h2=>hno i x y (Z49.1 h1).1 h1 h2]
def ouN (ck:Nat)(l:List (Nat×Int×Int)):Q03:=ouOf [.map ck (encI eN l)]
theorem Qoq(ck:Nat)(l:List (Nat×Int×Int)):OuOk (ouN ck l):=by
 intro k o h
 match k,h with
 |0,h=>cases h;exact Qfr _ _ _
 |k+1,h=>cases h
theorem Qop(ck ck':Nat)(l l':List (Nat×Int×Int)):(fun j=>bif Nat.beq j 0 then some (AObj.map ck' (encI eN l'))else ouN ck l j)=ouN ck' l':=by
 funext j
 match j with
 |0=>rfl
 |k+1=>rfl
theorem okT_tr{t:Tr}(h:okT t):t.binds.length<=1048576/\t.kids.length<=1048576/\t.alts.length<=1048576/\(∀x∈t.alts,x.binds.length<=1048576)/\Q73 t<=4194304/\∀k∈t.kids,okT k:=by
 cases t with
 |mk o n b k a=>
  obtain⟨h1,h2,h3,h4,h5⟩:=h;exact⟨h1,h2,h3,h4.1,h4.2,Q3n.1 h5⟩
def SameOk (Γ:List (Nat×List AC))(a b:Tr):Prop:=∀(m:Nm)(ck:Nat)(l:List (Nat×Int×Int)),IMOk m ck l->(Q6e a b m).1=true->
 AFn Tryz.prog Γ 92 [.one (.box (cTr a)),.one (.box (cTr b)),.one (.mp (.o 0))] (ouN ck l) (fun r ou'=>r=.one (.lit (.bool true))/\∃ck' l',ou'=ouN ck' l'/\IMOk (Q6e a b m).2 ck' l')
theorem Qod(hΓ:GI Γ):∀a:Tr,okT a->∀b,okT b->SameOk Γ a b
 |.mk o n bs ks al,ha,t,ht=>by
  have ha':=okT_tr ha;obtain⟨hbs,hks,hal,hab,hbl,hkk⟩:=ha';simp only[Qxp,Qxq,Qxr]at hbs hks hal hab hkk;have ih:∀x∈ks,∀y,okT y->SameOk Γ x y:=fun x hx y hy=>Qod hΓ x (hkk x hx) y hy;obtain⟨htb,htk,hta,htab,htl,htkk⟩:=okT_tr ht;intro m ck l hm hs;obtain⟨⟨e1,e2,e3,e4⟩,hcase⟩:=Qm6 hs;refine zwk 222 Tryz.func92 fun hou=>?_;refine zA ?_;refine zdx 47 [(8,.one (.lit (.bool false))),(20,.one (.lit (.bool false))),(33,.one (.lit (.bool false))),(46,.one (.lit (.bool false)))] ?_ ?_
  ·refine .step rfl (Qvu tabOk rfl (by simp[e1])) ?_;refine .step rfl (Qvu tabOk rfl (by simp[e2])) ?_;refine .step rfl (Qvu tabOk rfl (by simp[e3])) ?_;exact .step rfl (Qvu tabOk rfl (by simp[e4])) .nil
  iterate 7 (refine zO ?_)
  refine Qvy hΓ (α:=Unit) (fun _=>[(2,.one (.mp (.o 0))),(1,.one (.box (cTr t))),(0,.one (.box (cTr (.mk o n bs ks al))))])
   (fun _=>⟨0,[],ouN ck l⟩) (fun _=>o≠0/\Q2z al t.alts=true/\(Q3i ks t.kids (Q83 m (Q0h o bs al) (Q0h t.op t.binds t.alts))).1=true/\(Q6e (.mk o n bs ks al) t m).2=(Q3i ks t.kids (Q83 m (Q0h o bs al) (Q0h t.op t.binds t.alts))).2) ?_ fun _ hc=>?_
  ·refine zA ?_;rcases hcase with ⟨h0,hv,hm2⟩|⟨h0,hn,h9,hal2,hts,hm2⟩
   ·refine Q00.cond rfl (fun hb=>?_) (fun hb=>absurd h0 (by simpa using hb));have hz:=Qnp;refine zA ?_;refine zS (Qxw eN (cm:=true) (v:=.one (int ((m n).getD 0))) rfl Z7f Z7d rfl rfl rfl zky Qnp hm (by simp only[Qxo];cases m n <;> rfl)) ?_;refine zA ?_;cases hmn:m n with
    |some v=>
     have hvt:v=t.n:=by simpa[Qbw,hmn]using hv
     refine Q00.wk 8 rfl (y:=.one (.lit (.bool true))) (.ofEq (by simp[hmn])) ?_;refine Q00.wk 7 rfl (y:=.one (int v)) (.ofEq (by simp[hmn])) ?_;refine zdx 24 [(7,.one (.lit (.bool true)))] ?_ ?_
     ·exact .step rfl (Qvu tabOk rfl (by simp[hvt])) .nil
     refine zA ?_;exact Qwm rfl (Z7i _) zsy hou ⟨rfl,ck,l,rfl,by rw[hm2];exact hm⟩
    |none=>
     have hvt:n=t.n:=by simpa[Qbw,hmn]using hv
     refine Q00.wk 8 rfl (y:=.one (.lit (.bool false))) (.ofEq (by simp[hmn])) ?_;refine zdx 24 [(21,.one (.lit (.bool true)))] ?_ ?_
     ·exact .step rfl (Qvu tabOk rfl (by simp[hvt])) .nil
     refine zA ?_;exact Qwm rfl (Z7i _) zsy hou ⟨rfl,ck,l,rfl,by rw[hm2];exact hm⟩
   ·refine Q00.cond rfl (fun hb=>absurd (by simpa using hb) h0) (fun hb=>?_);refine zA ?_;by_cases h9':o=9
    ·have heq:=Qu8 hΓ bs t.binds hbs;rw[h9 h9']at heq;have e9:(t.binds==t.binds)=true:=by simp
     rw[e9]at heq;refine zdx 28 [(8,.one (.lit (.bool false))),(14,.one (.lit (.bool true))),(24,.one (.lit (.bool true)))] ?_ ?_
     ·refine .step rfl (Qvu tabOk rfl (by simp[hn])) ?_;refine .step rfl (Qvu tabOk rfl (by simp[h9'])) ?_;exact .step rfl (Qv7 rfl rfl rfl (Qv4 hΓ rfl rfl rfl (by rw[h9 h9'];rfl) zsy hou heq)) .nil
     refine zA ?_;exact cInv ⟨(),id,⟨h0,hal2,hts,hm2⟩,Z39 rfl zFS zsy .nil rfl rfl hou⟩
    ·refine zdx 28 [(8,.one (.lit (.bool false))),(14,.one (.lit (.bool false)))] ?_ ?_
     ·refine .step rfl (Qvu tabOk rfl (by simp[hn])) ?_;exact .step rfl (Qvu tabOk rfl (by simp[h9'])) .nil
     refine zA ?_;exact cInv ⟨(),id,⟨h0,hal2,hts,hm2⟩,Z39 rfl zFS zsy .nil rfl rfl hou⟩
  obtain⟨h0,hal2,hts,hm2⟩:=hc;clear hcase hs;refine zA ?_;refine Qv6 hΓ (α:=Nat) (fun i=>[(135,.one (int i)),(134,.one (int (al.map cAlt).length)),(2,.one (.mp (.o 0))),(1,.one (.box (cTr t))),(0,.one (.box (cTr (.mk o n bs ks al))))])
   (fun i=>⟨0,[],ouN ck l⟩) (fun m i=>i<=al.length/\m=al.length - i) (a0:=0) (ρ:=id) ⟨by omega,rfl⟩ (Z39 rfl zFS zsy .nil rfl rfl hou) fun m' i hi=>?_
  obtain⟨hil,rfl⟩:=hi;refine zA ?_;refine Q00.cond rfl (fun hb3=>?_) (fun hb3=>?_)
  ·have hlt:i < al.length:=by simpa using hb3
   obtain⟨x,hx⟩:=Q02 hlt;obtain⟨y,hy⟩:=Q02 (l:=t.alts) (i:=i) zoy;obtain⟨q1,q2⟩:=Qd7 hal2 hx hy;refine zA ?_;refine zdx 37 [(5,.one (.box (cAlt x))),(13,.one (.box (cAlt y))),(16,.one (.lit (.bool false))),(23,.one (.box (cAlt x))),(32,.one (.box (cAlt y))),(36,.one (.lit (.bool false)))] ?_ ?_
   ·refine .step rfl (zHP (zIA rfl rfl rfl zoy (Q0f hx))) ?_;refine .step rfl (zHP (zIA rfl rfl rfl zoy (Q0f hy))) ?_;refine .step rfl (Qvu tabOk rfl (by simp[q1])) ?_;refine .step rfl (Qv7 rfl rfl rfl (zIA rfl rfl rfl zoy (Q0f hx))) ?_;refine .step rfl (Qv7 rfl rfl rfl (zIA rfl rfl rfl zoy (Q0f hy))) ?_;exact .step rfl (Qvu tabOk rfl (by simp[q2])) .nil
   refine zM ?_;exact cInv ⟨al.length - (i+1),i+1,id,by omega,⟨by omega,rfl⟩,Z39 rfl zFS zsy .nil rfl rfl hou⟩
  clear hb3;have hlen:=Qi4 (o:=o) e3 e4 hal2;have hB1:=Q7o hΓ (.mk o n bs ks al) hbl hal;have hB2:=Q7o hΓ t htl hta;have hbn:(Q0h o bs al).length<=4194304:=by
   unfold Q73 at hbl;simp only[Qxp,Qxr]at hbl;unfold Q0h;rw[Z4g];split
   ·omega
   ·simp only[Z4l];omega
  simp only[Qxn,Qxp,Qxr]at hB1;rw[←e1]at hB2 hts hm2;generalize Q0h o bs al=L1 at hlen hB1 hts hm2 hbn;generalize Q0h o t.binds t.alts=L2 at hlen hB2 hts hm2;refine zA ?_;refine zca hΓ hB1 hou ?_;refine zA ?_;refine zca hΓ hB2 hou ?_;refine zA ?_;refine Qv6 hΓ (α:=Nat×Nat×List (Nat×Int×Int)) (fun c=>[(183,.one (int c.1)),(182,.one (int (L1.map cI).length)),(11,.one (.sl 1 (L2.map cI))),(10,.one (.sl 1 (L1.map cI))),(2,.one (.mp (.o 0))),(1,.one (.box (cTr t))),(0,.one (.box (cTr (.mk o n bs ks al))))])
   (fun c=>⟨0,[],ouN c.2.1 c.2.2⟩) (fun m' c=>c.1<=L1.length/\IMOk (Q83 m (L1.take c.1) (L2.take c.1)) c.2.1 c.2.2/\m'=L1.length - c.1) (a0:=(0,ck,l)) (ρ:=id) ⟨by omega,by simpa[Q83]using hm,rfl⟩ (Z39 rfl zFS zsy .nil rfl rfl hou) fun m' c hi=>?_
  clear hm hou;obtain⟨i,ck,l⟩:=c;obtain⟨hil,hm,rfl⟩:=hi;simp only at hil hm;have hou:OuOk (ouN ck l):=Qoq _ _;refine zA ?_;refine Q00.cond rfl (fun hb3=>?_) (fun hb3=>?_)
  ·have hlt:i < L1.length:=by simpa using hb3
   obtain⟨x,hx⟩:=Q02 hlt;obtain⟨y,hy⟩:=Q02 (l:=L2) (i:=i) zoy;refine zA ?_;refine zdx 9 [(3,.one (.box (cI x))),(7,.one (.box (cI y)))] ?_ ?_
   ·refine .step rfl (zHP (zIA rfl rfl rfl zoy (Q0f hx))) ?_;exact .step rfl (zHP (zIA rfl rfl rfl zoy (Q0f hy))) .nil
   refine Qxv eN (v:=y) rfl rfl rfl Z7f Z7d rfl rfl rfl rfl hm fun ck' l' hm'=>?_;refine zM ?_;refine cInv ⟨L1.length - (i+1),(i+1,ck',l'),id,by omega,⟨by omega,?_,rfl⟩,Z39 rfl zFS zsy .nil rfl (Qop ck ck' l l').symm (by rw[show (St.set ⟨0,[],ouN ck l⟩ (.o 0) (.map ck' (encI eN l'))).ou=ouN ck' l' from Qop ck ck' l l'];exact Qoq _ _)⟩;rw[Qdq hx hy];exact hm'
  have hlt:i=L1.length:=by simp at hb3;omega
  subst hlt;rw[Z5w,hlen,Z5w]at hm;generalize Q83 m L1 L2=m1 at hm hts hm2;clear hb3;refine zA ?_;refine Qv6 hΓ (α:=Nat×Nat×List (Nat×Int×Int)) (fun c=>[(201,.one (int c.1)),(200,.one (int (Q1a ks).length)),(2,.one (.mp (.o 0))),(1,.one (.box (cTr t))),(0,.one (.box (cTr (.mk o n bs ks al))))])
   (fun c=>⟨0,[],ouN c.2.1 c.2.2⟩) (fun m' c=>c.1<=ks.length/\IMOk (Q3i (ks.take c.1) (t.kids.take c.1) m1).2 c.2.1 c.2.2/\m'=ks.length - c.1) (a0:=(0,ck,l)) (ρ:=id) ⟨by omega,by simpa[Q3i]using hm,rfl⟩ (Z39 rfl zFS zsy .nil rfl rfl hou) fun m' c hi=>?_
  clear hm hou;obtain⟨i,ck,l⟩:=c;obtain⟨hil,hm,rfl⟩:=hi;simp only at hil hm;have hou:OuOk (ouN ck l):=Qoq _ _;refine zA ?_;refine Q00.cond rfl (fun hb3=>?_) (fun hb3=>?_)
  ·have hlt:i < ks.length:=by simpa using hb3
   obtain⟨x,hx⟩:=Q02 hlt;obtain⟨y,hy⟩:=Q02 (l:=t.kids) (i:=i) zoy;obtain⟨q1,q2⟩:=Qbx hts hx hy;have hcall:=ih x (Z5c hx) y (htkk y (Z5c hy)) _ ck l hm q1;refine zA ?_;refine zdx 15 [(5,.one (.box (cB x))),(12,.one (.box (cB y)))] ?_ ?_
   ·refine .step rfl (zHP (zIA rfl rfl rfl zoy (Q1x hx))) ?_;exact .step rfl (zHP (zIA rfl rfl rfl zoy (Q1x hy))) .nil
   refine Qv3 hΓ rfl rfl rfl rfl rfl rfl rfl zsy hou hcall fun r ou' hq Qz6 Z0n=>?_;obtain⟨rfl,ck',l',rfl,hm'⟩:=hq;refine zM ?_;refine cInv ⟨ks.length - (i+1),(i+1,ck',l'),id,by omega,⟨by omega,?_,rfl⟩,Z39 rfl zFS zsy .nil rfl rfl Z0n⟩;rw[q2];exact hm'
  ·have hlt:i=ks.length:=by simp at hb3;omega
   subst hlt;rw[Z5w,e2,Z5w]at hm;refine zA ?_;exact Qwm rfl (Z7i _) zsy hou ⟨rfl,ck,l,rfl,by rw[hm2];exact hm⟩
end Go.Proofs.YtlmokgooijbcdaaGreatDoor
namespace Go.Proofs
open Go.Shelf
def Qxx:Go.Shelf.Ren:=⟨fun|189=>117|125=>149|257=>148|128=>188|129=>189|294=>179|295=>180|296=>181|297=>182|298=>183|299=>184|216=>185|300=>186|301=>187|328=>216|329=>217|330=>218|331=>219|332=>220|215=>221|343=>229|n=>n,fun|28=>32|3=>3|46=>253|0=>0|51=>303|53=>224|4=>4|183=>296|182=>295|131=>203|5=>5|9=>9|218=>324|222=>96|228=>336|229=>125|n=>n,fun|n=>n⟩
theorem Qxy:Go.Proofs.Lays.n189 Tryz.prog Qxx:={
 mixed:=by kernel_rfl
 f125:=Tryz.func149.trans (congrArg some zky)
 f128:=Tryz.func188.trans (congrArg some zky)
 f129:=Tryz.func189.trans (congrArg some zky)
 f189:=Tryz.func117.trans (congrArg some zky)
 f215:=Tryz.func221.trans (congrArg some zky)
 f216:=Tryz.func185.trans (congrArg some zky)
 f257:=Tryz.func148.trans (congrArg some zky)
 f294:=Tryz.func179.trans (congrArg some zky)
 f295:=Tryz.func180.trans (congrArg some zky)
 f296:=Tryz.func181.trans (congrArg some zky)
 f297:=Tryz.func182.trans (congrArg some zky)
 f298:=Tryz.func183.trans (congrArg some zky)
 f299:=Tryz.func184.trans (congrArg some zky)
 f300:=Tryz.func186.trans (congrArg some zky)
 f301:=Tryz.func187.trans (congrArg some zky)
 f328:=Tryz.func216.trans (congrArg some zky)
 f329:=Tryz.func217.trans (congrArg some zky)
 f330:=Tryz.func218.trans (congrArg some zky)
 f331:=Tryz.func219.trans (congrArg some zky)
 f332:=Tryz.func220.trans (congrArg some zky)
 f343:=Tryz.func229.trans (congrArg some zky)
 t0:=Tryz.underlying0
 a0:=Tryz.isAgg0
 z0:=Tryz.sizeOf0
 v0:=Tryz.zeroValue0
 t3:=Z7d
 a3:=Tryz.isAgg3
 z3:=Tryz.sizeOf3
 v3:=Tryz.zeroValue3
 t4:=Tryz.underlying4
 a4:=Tryz.isAgg4
 z4:=Tryz.sizeOf4
 v4:=Tryz.zeroValue4
 t5:=Tryz.underlying5
 a5:=Tryz.isAgg5
 z5:=Tryz.sizeOf5
 v5:=Tryz.zeroValue5
 t9:=Tryz.underlying9
 a9:=Tryz.isAgg9
 z9:=Tryz.sizeOf9
 v9:=Tryz.zeroValue9
 t28:=Tryz.underlying32
 a28:=Tryz.isAgg32
 z28:=Tryz.sizeOf32
 v28:=Tryz.zeroValue32
 t46:=Tryz.underlying253
 a46:=Tryz.isAgg253
 z46:=Tryz.sizeOf253
 v46:=Tryz.zeroValue253
 t51:=Tryz.underlying303
 a51:=Tryz.isAgg303
 z51:=Tryz.sizeOf303
 v51:=Tryz.zeroValue303
 t53:=Tryz.underlying224
 a53:=Tryz.isAgg224
 z53:=Tryz.sizeOf224
 v53:=Tryz.zeroValue224
 t131:=Tryz.underlying203
 a131:=Tryz.isAgg203
 z131:=Tryz.sizeOf203
 v131:=Tryz.zeroValue203
 t182:=Tryz.underlying295
 a182:=Tryz.isAgg295
 z182:=Tryz.sizeOf295
 v182:=Tryz.zeroValue295
 t183:=Tryz.underlying296
 a183:=Tryz.isAgg296
 z183:=Tryz.sizeOf296
 v183:=Tryz.zeroValue296
 t218:=Tryz.underlying324
 a218:=Tryz.isAgg324
 z218:=Tryz.sizeOf324
 v218:=Tryz.zeroValue324
 t222:=Tryz.underlying96
 a222:=Tryz.isAgg96
 z222:=Tryz.sizeOf96
 v222:=Tryz.zeroValue96
 t228:=Tryz.underlying336
 a228:=Tryz.isAgg336
 z228:=Tryz.sizeOf336
 v228:=Tryz.zeroValue336
 t229:=Tryz.underlying125
 a229:=Tryz.isAgg125
 z229:=Tryz.sizeOf125
 v229:=Tryz.zeroValue125 }
open Go.Sort Go.RowKit in
theorem Tryz.slices_Sort_int(blk off cap:Nat)(zs:List Int)(w:World)(hH:Holds (Value.int .i64) w blk off zs.toArray)(hblk:blk < w.heap.size)(hsz:zs.length < 4611686018427387904):
  Calls Tryz.prog 117 #[.slice (some ⟨blk,off,none⟩) zs.length cap] w fun e w'=>
   e=.returned (.tuple #[])/\∃n os,w'=grow (putRow (Value.int .i64) (Sort.ahead w n) blk off (zs.mergeSort fun x y=>decide (x<=y)).toArray) os:=Any.slices_Sort_int Qxy blk off cap zs w hH hblk hsz
theorem Tryz.slices_Sort_int_none(p:Option Addr)(cap:Nat)(w:World):
  Calls Tryz.prog 117 #[.slice p 0 cap] w fun e w'=>e=.returned (.tuple #[])/\w'=w:=Any.slices_Sort_int_none Qxy p cap w
end Go.Proofs
namespace Go.Proofs.YtlmokgooijbcdaaGreatDoor
open Go Go.Sort
theorem sortOk:SortOk:=fun blk off cap zs w hH hblk hsz=>Tryz.slices_Sort_int blk off cap zs w hH hblk hsz
theorem sortNil:Qre:=fun w=>Tryz.slices_Sort_int_none none 0 w
end Go.Proofs.YtlmokgooijbcdaaGreatDoor
namespace Go.CoreX
theorem Qsc(h:∀x∈e,x.binds.length<=1048576/\x.kids.length<=1048576/\x.alts.length<=1048576/\(∀a∈x.alts,a.binds.length<=1048576)/\x.binds.length+(x.alts.flatMap (·.binds)).length<=4194304)(hk:Q1d e):∀t∈Q0q e,okT t:=by
 revert h hk
 refine Q8m (P:=fun e=>(∀x∈e,x.binds.length<=1048576/\x.kids.length<=1048576/\x.alts.length<=1048576/\(∀a∈x.alts,a.binds.length<=1048576)/\x.binds.length+(x.alts.flatMap (·.binds)).length<=4194304)->Q1d e->∀t∈Q0q e,okT t) (fun _ _ t ht=>by simp[Q0q]at ht) (fun e x ih h hk t ht=>?_) e;obtain⟨h1,h2⟩:=Q4z.1 hk;have ih:=ih (fun y hy=>h y (by simp[hy])) h1;rw[Q3f]at ht;rcases Z50.1 ht with ht|ht
 ·exact ih t ht
 ·simp at ht;subst ht;obtain⟨a1,a2,a3,a4,a5⟩:=h x zsy;refine⟨a1,by simpa using a2,a3,⟨a4,a5⟩,Q3n.2 fun s hs=>?_⟩;obtain⟨k,hk2,rfl⟩:=Z5a.1 hs;have hkb:=h2 k hk2;have hl:k.toNat < (Q0q e).length:=by rw[Q2g];omega
  rw[Z42,Z47 hl];exact ih _ (Z4f hl)
theorem Qtc(h:e≠[]):grow e∈Q0q e:=by
 have hl:e.length - 1 < (Q0q e).length:=by rw[Q2g];have:=Z4m.2 h;omega
 unfold grow;rw[Z42,Z47 hl];exact Z4f hl
theorem Qcv{α:Type}{f:α->Int}:∀{l:List α}{j:Nat}{x:α},(∀y∈l.take j,f y=0)->l[j]?=some x->f x≠0->Q2d f l=f x
 |[],j,x,_,h,_=>by simp at h
 |a::l,0,x,_,h,hx=>by simp at h;subst h;simp[Q2d,hx]
 |a::l,j+1,x,h0,h,hx=>by have h1:=h0 a zsy;simp only[Q2d,h1];exact Qcv (l:=l) (j:=j) (fun y hy=>h0 y (by simp[hy])) (by simpa using h) hx
theorem Qn2(t:Tr):(Q5e t).length<=(Q0c [] t).length:=by
 have h1:(Q5e t).Nodup:=(Q6i (occT [] t)).imp fun {a b} h=>by omega
 have h2:=Qfg h1 (m:=occB (fun _=>0) t) fun x hx=>by rw[Qct]at hx;exact (Q8l x _).1 hx
 have h3:=Qfd t (fun _=>0) [];simp at h3;omega
theorem Qbf(h:IsTree e):(Q0c [] (grow e)).length=e.length:=by have hp:=Qhb h (Q51 (grow e)) (Q3s _).symm;rw[←Qbg e,←Qbg];exact hp.length_eq.symm
end Go.CoreX
namespace Go.Proofs.YtlmokgooijbcdaaGreatDoor
structure okB (e:List Ex):Prop where
 eo:okE e
 b:∀x∈e,x.binds.length+(x.alts.flatMap (·.binds)).length<=4194304
theorem okB.ex(h:okB e):∀x∈e,(Q13 x).length<=4194304/\x.binds.length+(x.alts.flatMap (·.binds)).length<=4194304:=fun x hx=>by
 have h1:=h.b x hx;refine⟨?_,h1⟩;unfold Q13 Q0h;rw[Z4g];split
 ·omega
 ·simp only[Z4l];omega
theorem okB.t(h:okB e)(hk:Q1d e)(hne:e≠[]):okT (grow e):=Qsc (fun x hx=>⟨(h.eo.x x hx).b,(h.eo.x x hx).k,(h.eo.x x hx).a,(h.eo.x x hx).ab,h.b x hx⟩) hk _ (Qtc hne)
theorem hΓcF:∀g cs,(g,cs)∈Γc->idsL (fun _=>False) cs:=fun g cs h=>by
 simp[Γc]at h;first
  |(obtain⟨rfl,rfl⟩:=h;simp[arC,Q74];done)
  |(rcases h with ⟨rfl,rfl⟩|⟨rfl,rfl⟩ <;> simp[arC,orC,Q74])
theorem Body_ok(e:List Ex)(he:okB e)(params:List Int)(hp:params.length<=1048576)(flat:Bool):
  Q09 Tryz.prog Γc 42 [.one (.sl 5 (e.map cEx)),.one (.sl 1 (params.map cI)),.one (.lit (.bool flat))] (.one (int (body e params flat))):=by
 have hel:=he.eo.l;intro ou;refine zwk 62 Tryz.func42 fun hou=>?_;refine zA ?_;refine Z2l (.l 0) 3 rfl rfl ?_;refine zca hΓc (Qgi hΓc e he.eo) hou ?_;refine zA ?_;refine Q00.cond rfl (fun hb=>?_) (fun hb=>?_)
 ·have hb':Q2p e≠0:=by simpa using hb
  refine zA ?_;refine Q09.fin rfl (Z7h ?_) zsy hou rfl;unfold body;rw[if_pos hb']
 have h1:Q2p e=0:=by simpa using hb
 clear hb;obtain⟨t1,t2,t3⟩:=(Q39 e).1 h1;have hn:body e params flat=if Q2d (Q18 flat e) e≠0 then Q2d (Q18 flat e) e else if Q6t (params++Q0l e)=true then 7 else if (Q5e (grow e)).all (fun n=>params.contains n)=true then 0 else 6:=by unfold body;rw[if_neg (by simpa using h1)]
 refine zA ?_;refine Qv6 hΓc (α:=Nat) (fun j=>[(20,.one (int j)),(19,.one (int (e.map cEx).length)),(18,.one (.sl 5 (e.map cEx))),(3,.one (.box [.sl 5 (e.map cEx)])),(2,.one (.lit (.bool flat))),(1,.one (.sl 1 (params.map cI)))])
  (fun j=>⟨0,[],ou⟩) (fun m j=>j<=e.length/\(∀x∈e.take j,Q18 flat e x=0)/\m=e.length - j) (a0:=0) (ρ:=id) ⟨by omega,by simp,rfl⟩ (Z39 rfl zFS zsy zLO rfl rfl hou) fun m j hj=>?_
 obtain⟨hjl,hno,rfl⟩:=hj;refine zA ?_;refine Q00.cond rfl (fun hb2=>?_) (fun hb2=>?_)
 ·have hlt:j < e.length:=by simpa using hb2
  obtain⟨x,hx⟩:=Q02 hlt;have hxm:=Z5c hx;have hxo:=he.eo.x x hxm;have bad:Q18 flat e x≠0->body e params flat=Q18 flat e x:=fun h=>by rw[hn,Qcv hno hx h,if_pos h]
  have hkk:∀k∈x.kids,0<=k/\k.toNat < e.length:=fun k hk=>by have:=Qfm t2.k hxm k hk;omega
  have hcall:=Qh5 e x hxo hkk;refine zA ?_;refine zS (zIA rfl rfl rfl zoy (Q0f hx)) ?_;cases flat with
  |false=>
   have hE:Q18 false e x=if Q91 x.op=true then 3 else Q2k e x:=by simp[Q18]
   repeat' first|refine zN ?_|(with_reducible refine oj ?_;refine Qvi rfl rfl rfl rfl (fun hb=>?_) (fun hb=>?_))|(with_reducible refine ok ?_;first|refine Qwd rfl (fun hb=>?_) (fun hb=>?_)|refine Q00.cond rfl (fun hb=>?_) (fun hb=>?_))
   refine zca hΓc (Qjg x.op) hou ?_;repeat' first|refine zN ?_|(with_reducible refine oj ?_;refine Qvi rfl rfl rfl rfl (fun hb=>?_) (fun hb=>?_))|(with_reducible refine ok ?_;first|refine Qwd rfl (fun hb=>?_) (fun hb=>?_)|refine Q00.cond rfl (fun hb=>?_) (fun hb=>?_))
   all_goals try
    (
    refine Q09.fin rfl (Z7h ?_) zsy hou rfl;rw[bad (by rw[hE,if_pos hb];decide),hE,if_pos hb]
    done)
   rw[if_neg (by rw[hb];decide)]at hE;refine zca hΓc hcall hou ?_;refine zA ?_;refine Q00.cond rfl (fun hb3=>?_) (fun hb3=>?_)
   ·have h3:Q2k e x≠0:=by simpa using hb3
    refine zA ?_;refine Q09.fin rfl (Z7h ?_) zsy hou rfl;rw[bad (by rw[hE];exact h3),hE]
   ·have h3:Q2k e x=0:=by simpa using hb3
    refine zM ?_;exact cInv ⟨e.length - (j+1),j+1,id,by omega,⟨by omega,Q2a hno hx (by rw[hE];exact h3),rfl⟩,Z39 rfl zFS zsy zLO rfl rfl hou⟩
  |true=>
   have hE:Q18 true e x=if Qbm x.op=true then 3 else Q2k e x:=by simp[Q18]
   repeat' first|refine zN ?_|(with_reducible refine oj ?_;refine Qvi rfl rfl rfl rfl (fun hb=>?_) (fun hb=>?_))|(with_reducible refine ok ?_;first|refine Qwd rfl (fun hb=>?_) (fun hb=>?_)|refine Q00.cond rfl (fun hb=>?_) (fun hb=>?_))
   refine zca hΓc (Qji x.op) hou ?_;repeat' first|refine zN ?_|(with_reducible refine oj ?_;refine Qvi rfl rfl rfl rfl (fun hb=>?_) (fun hb=>?_))|(with_reducible refine ok ?_;first|refine Qwd rfl (fun hb=>?_) (fun hb=>?_)|refine Q00.cond rfl (fun hb=>?_) (fun hb=>?_))
   all_goals try
    (
    refine Q09.fin rfl (Z7h ?_) zsy hou rfl;rw[bad (by rw[hE,if_pos hb];decide),hE,if_pos hb]
    done)
   rw[if_neg (by rw[hb];decide)]at hE;refine zca hΓc hcall hou ?_;refine zA ?_;refine Q00.cond rfl (fun hb3=>?_) (fun hb3=>?_)
   ·have h3:Q2k e x≠0:=by simpa using hb3
    refine zA ?_;refine Q09.fin rfl (Z7h ?_) zsy hou rfl;rw[bad (by rw[hE];exact h3),hE]
   ·have h3:Q2k e x=0:=by simpa using hb3
    refine zM ?_;exact cInv ⟨e.length - (j+1),j+1,id,by omega,⟨by omega,Q2a hno hx (by rw[hE];exact h3),rfl⟩,Z39 rfl zFS zsy zLO rfl rfl hou⟩
 have hlt:j=e.length:=by simp at hb2;omega
 subst hlt;rw[Z5w]at hno;rw[if_neg (by rw[Classical.not_not];exact (Q3t _ _).2 hno)]at hn;clear hno hb2 hjl;have hgt:=he.t t2.k t2.ne;refine zA ?_;refine zca hΓc (Qro hΓc e he.eo params hp he.ex) hou ?_;refine zA ?_;refine Q00.cond rfl (fun hb=>?_) (fun hb=>?_)
 ·refine zA ?_;refine Q09.fin rfl (Z7h ?_) zsy hou rfl;rw[hn,if_pos hb]
 rw[if_neg (by rw[hb];decide)]at hn;refine zA ?_;refine zca hΓc (Qgd hΓc e he.eo t2.k t2.ne) hou ?_;refine zca hΓc (Qrh hΓc hΓcF sortOk sortNil (grow e) hgt zoy (by rw[Qbf t2];omega)) hou ?_;have hfl:=Qn2 (grow e);rw[Qbf t2]at hfl;generalize Q5e (grow e)=fs at hn hfl;refine zA ?_;refine Qv6 hΓc (α:=Nat) (fun j=>[(53,.one (int j)),(52,.one (int (fs.map cI).length)),(51,.one (.sl 1 (fs.map cI))),(1,.one (.sl 1 (params.map cI)))])
  (fun j=>⟨0,[],ou⟩) (fun m j=>j<=fs.length/\(∀x∈fs.take j,params.contains x=true)/\m=fs.length - j) (a0:=0) (ρ:=id) ⟨by omega,by simp,rfl⟩ (Z39 rfl zFS zsy zLO rfl rfl hou) fun m j hj=>?_
 obtain⟨hjl,hno,rfl⟩:=hj;refine zA ?_;refine Q00.cond rfl (fun hb2=>?_) (fun hb2=>?_)
 ·have hlt:j < fs.length:=by simpa using hb2
  obtain⟨k,hk⟩:=Q02 hlt;refine zA ?_;refine zS (zIA rfl rfl rfl zoy (Q0f hk)) ?_;refine zA ?_;refine zca hΓc (Qjw hΓc params hp k) hou ?_;refine zA ?_;refine Q00.cond rfl (fun hb3=>?_) (fun hb3=>?_)
  ·refine zA ?_;refine Q09.fin rfl (Z7h ?_) zsy hou rfl;rw[hn,if_neg];rw[Z3b];intro h;have:=h k (Z5c hk);rw[this]at hb3;cases hb3
  ·refine zM ?_;exact cInv ⟨fs.length - (j+1),j+1,id,by omega,⟨by omega,Q2a hno hk (by simpa using hb3),rfl⟩,Z39 rfl zFS zsy zLO rfl rfl hou⟩
 ·have hlt:j=fs.length:=by simp at hb2;omega
  subst hlt;rw[Z5w]at hno;refine zA ?_;refine Q09.fin rfl (Z7h ?_) zsy hou rfl;rw[hn,if_pos (Z3b.2 hno)]
theorem Q66(e:List Ex)(he:okB e):Q09 Tryz.prog Γc 18 [.one (.sl 5 (e.map cEx))] (.one (int (check e))):=by
 intro ou;refine zwk 5 Tryz.func18 fun hou=>?_;refine zA ?_;refine Qw1 (ws:=[.one (.sl 5 (e.map cEx)),.one (.sl 1 (([]:List Int).map cI)),.one (.lit (.bool false))]) hΓc (Body_ok e he [] zsy false) rfl rfl rfl rfl rfl rfl ?_ hou zsy ?_
 ·exact .cons (.refl _) (.cons (.one (.nilS 1)) (.cons (.refl _) .nil))
 refine zA ?_;exact Q09.fin rfl (Z7h rfl) zsy hou rfl
variable {Γ:List (Nat×List AC)}
theorem Qjt(hΓ:GI Γ)(hΓF:∀g cs,(g,cs)∈Γ->idsL (fun _=>False) cs)(a b:Tr)(ha:okT a)(hb:okT b)(hs:Qb9 a b=true):
  Q09 Tryz.prog Γ 44 [.one (.box (cTr a)),.one (.box (cTr b))] (.one (.lit (.bool true))):=by
 intro ou;refine zwk 9 Tryz.func44 fun hou=>?_;refine zA ?_;refine zS (Q01.makeMap rfl) ?_;refine Qvl [.l 0] [.one (.box (cTr a)),.one (.box (cTr b)),.one (.mp (.o 0))] [.map 0 (encI eN [])] hΓF rfl rfl rfl rfl rfl rfl ?_ ?_ ?_ ?_ ?_ (Qod hΓ a ha b hb (fun _=>none) 0 [] IMOk.nil hs) ?_
 ·simp[subF,FV.sub,AC.sub,nameOf];exact⟨(Q2q _ _ zsy).symm,(Q2q _ _ zsy).symm⟩
 ·simp[inO]
 ·simp
 ·exact⟨rfl,trivial⟩
 ·simp[inO]
 intro r ou' hq;obtain⟨rfl,ck',l',rfl,hm⟩:=hq;refine⟨[.map ck' (encI eN l')],rfl,rfl,by simp[inO],by simp,?_⟩;rw[show FV.sub (nameOf [.l 0]) (.one (.lit (.bool true)))=.one (.lit (.bool true))from rfl];refine zA ?_;exact Q09.fin rfl (Z7h rfl) zsy hou rfl
theorem Same_ok(e f:List Ex)(he:okB e)(hf:okB f)(hs:same e f=true):Q09 Tryz.prog Γc 20 [.one (.sl 5 (e.map cEx)),.one (.sl 5 (f.map cEx))] (.one (.lit (.bool true))):=by
 have hs':(check e=0/\check f=0)/\Qb9 (grow e) (grow f)=true:=by simpa[same]using hs
 obtain⟨⟨h1,h2⟩,h3⟩:=hs';have t1:=Q1j h1;have t2:=Q1j h2;have c1:=Q66 e he;have c2:=Q66 f hf;rw[h1]at c1;rw[h2]at c2;intro ou;refine zwk 20 Tryz.func20 fun hou=>?_;refine zA ?_;refine zca hΓc c1 hou ?_;refine zM ?_;refine zca hΓc c2 hou ?_;refine zM ?_;refine zca hΓc (Qgd hΓc e he.eo t1.k t1.ne) hou ?_;refine zM ?_;refine zca hΓc (Qgd hΓc f hf.eo t2.k t2.ne) hou ?_;refine zM ?_;refine zca hΓc (Qjt hΓc hΓcF (grow e) (grow f) (he.t t1.k t1.ne) (hf.t t2.k t2.ne) h3) hou ?_;refine zM ?_;exact Q09.fin rfl (Z7h rfl) zsy hou rfl
end Go.Proofs.YtlmokgooijbcdaaGreatDoor
namespace Go.Abs
theorem Q01.wk{σ':St}{x y:FV}(h:Q01 E o fr σ x σ')(hw:WkF x y):Q01 E o fr σ y σ':=
 fun F w C tmps hi hf next Q hk=>h F w C tmps hi hf next Q fun u w' C' a b c=>hk u w' C' a b (hw _ _ _ c)
end Go.Abs
namespace Go.Proofs.YtlmokgooijbcdaaGreatDoor
variable {Γ:List (Nat×List AC)}
mutual
def Qqo:Tr->List AC
 |.mk o n b k a=>[int o,int n,.sl 1 (b.map cI),.any,.sl 2 (a.map cAlt),.sl 1 (Q4j k)]
def Q4j:List Tr->List (List AC)
 |[]=>[]
 |t::ts=>[.box (Qqo t)]::Q4j ts
end
def cNd (t:Tr):List AC:=[int t.op,int t.n,.sl 1 (t.binds.map cI),.any,.sl 2 (t.alts.map cAlt),.sl 1 (Q4j t.kids)]
theorem Qtj(t:Tr):Qqo t=cNd t:=by cases t;simp[Qqo,cNd]
theorem Q96:∀l:List Tr,Q4j l=l.map fun t=>[.box (cNd t)]
 |[]=>rfl
 |t::ts=>by simp[Q4j,Q96 ts,Qtj]
theorem Qn6{l:List Tr}{t:Tr}(h:l[i]?=some t):(Q4j l)[i]?=some [.box (cNd t)]:=by rw[Q96];simp[h]
mutual
theorem Qpz(p:Abs.Id->Prop):∀t:Tr,idsL p (Qqo t)
 |.mk o n b k a=>by simp[Qqo,Qa4 p k]
theorem Qa4(p:Abs.Id->Prop):∀l:List Tr,idsS p (Q4j l)
 |[]=>by simp[Q4j]
 |t::ts=>by simp[Q4j,Qpz p t,Qa4 p ts]
end
attribute [simp] Qa4
@[simp] theorem ids_cNd (p:Abs.Id->Prop) (t:Tr):idsL p (cNd t):=by simp[cNd]
@[simp] theorem len_encNds (l:List Tr):(Q4j l).length=l.length:=by rw[Q96];simp
theorem N_ok(op n:Int)(ks:List Tr):Q09 Tryz.prog Γ 10 [.one (int op),.one (int n),.one (.sl 1 (Q4j ks))] (.one (.box (cNd (.mk op n [] ks [])))):=by
 intro ou;refine zwk 13 Tryz.func10 fun hou=>?_;iterate 14 (refine zO ?_)
 refine Z2l (.l 0) 6 rfl rfl ?_;refine zA ?_;refine Q09.fin rfl (.one (Z7g ?_)) zsy hou rfl;exact .cons (.refl _) (.cons (.refl _) (.cons (.nilS 1) (.cons (.any _) (.cons (.nilS 2) (.cons (.refl _) .nil)))))
theorem V_ok(hΓ:GI Γ)(n:Int):Q09 Tryz.prog Γ 11 [.one (int n)] (.one (.box (cNd (.mk 0 n [] [] [])))):=by
 intro ou;refine zwk 5 Tryz.func11 fun hou=>?_;refine zA ?_;refine Qw1 (ws:=[.one (int 0),.one (int n),.one (.sl 1 (Q4j []))]) hΓ (N_ok 0 n []) rfl rfl rfl rfl rfl rfl ?_ hou zsy ?_
 ·exact .cons (.refl _) (.cons (.refl _) (.cons (.one (.nilS 1)) .nil))
 refine zA ?_;exact Q09.fin rfl (Z7h rfl) zsy hou rfl
def IntoOk (Γ:List (Nat×List AC))(t:Tr):Prop:=∀(ou:Q03)(ko kt:Nat)(out:List Ex),OuOk ou->ou ko=none->ou kt=none->ko≠kt->(Q0c out t).length<=1048576->
 AFn Tryz.prog Γ 31 [.one (.box (cNd t)),.one (.ptr (.o ko) 0)] (ouS ou ko kt (out.map cEx)) (fun r ou'=>r=.one (int (((Q0c out t).length:Int) - 1))/\∃kt',ou kt'=none/\ko≠kt'/\ou'=ouS ou ko kt' ((Q0c out t).map cEx))
theorem Qpt(hΓ:GI Γ):∀t:Tr,okT t->IntoOk Γ t
 |.mk o n b ks a,hok=>by
  obtain⟨hb,hk,ha,⟨hab,_⟩,hks⟩:=hok;have ih:∀t∈ks,IntoOk Γ t:=fun t ht=>Qpt hΓ t (Q3n.1 hks t ht);intro ou ko kt out Qzg ho ht hne hsz;have Z0c:(Q06 out ks).1.length < 1048576:=by simp only[Q0c,Z4g,Z4o]at hsz;omega
  refine zwk 44 Tryz.func31 fun hou=>?_;refine zA ?_;refine Q00.grow 0 3 3 1 rfl rfl ?_;refine Qv6 hΓ (α:=Nat×Nat) (fun c=>[(18,.one (int c.1)),(17,.one (int (Q4j ks).length)),(16,.one (.sl 1 (Q4j ks))),(5,.one (.ptr (.l 0) 0)),(1,.one (.ptr (.o ko) 0))])
   (fun c=>⟨2,[(1,.tok 3 1 c.1),(0,.cells [int o,int n,.sl 1 (b.map cI),.gs 1 ((Q06 out (ks.take c.1)).2.map cI) (.l 1),.sl 2 (a.map cAlt)])],ouS ou ko c.2 ((Q06 out (ks.take c.1)).1.map cEx)⟩)
   (fun m c=>c.1<=ks.length/\(ou c.2=none/\ko≠c.2)/\m=ks.length - c.1) (a0:=(0,kt)) (ρ:=id) ⟨by omega,⟨ht,hne⟩,rfl⟩ (Z39 rfl zFS zsy ?_ rfl (by simp[Q06];rfl) hou) fun m c hi=>?_
  ·repeat' first|exact Q1b.nil|refine zlc ?_|refine zld ?_ ?_|rfl
   all_goals (simp[AObj.ren,renL,AC.ren,Q06];rfl)
  obtain⟨i,kt⟩:=c;obtain⟨hil,⟨ht,hne⟩,rfl⟩:=hi;simp only at hil ht hne;have hle:(Q06 out (ks.take i)).1.length<=(Q06 out ks).1.length:=by have:=Q3z (ks.take i) (ks.drop i) out;rw[Z5u]at this;rw[this];exact Q47 _ _
  refine zA ?_;refine Q00.cond rfl (fun hb3=>?_) (fun hb3=>?_)
  ·have Qz9:i < ks.length:=by simpa using hb3
   obtain⟨t,ht2⟩:=Q02 Qz9;have hsn:=Q5y t (ks.take i) out;rw[←Q0u ht2]at hsn;have hle2:(Q0c (Q06 out (ks.take i)).1 t).length<=1048576:=by have:=Q3z (ks.take (i+1)) (ks.drop (i+1)) out;rw[Z5u]at this;have h2:=Q47 (ks.drop (i+1)) (Q06 out (ks.take (i+1))).1;rw[←this,hsn]at h2;simp only at h2;omega
   have hcall:=ih t (Z5c ht2) ou ko kt (Q06 out (ks.take i)).1 Qzg ho ht hne hle2;have Qzy:((Q06 out (ks.take i)).2.map cI).length=i:=by rw[Z4k,Q4m];simp;omega
   refine zA ?_;refine zS (zIA rfl rfl rfl zoy (Qn6 ht2)) ?_;refine zA ?_;refine Qwj (va:=.one (int (((Q0c (Q06 out (ks.take i)).1 t).length:Int) - 1))) tabOk 6 4 []
    (fun σ=>∃kt',ou kt'=none/\ko≠kt'/\σ=⟨2,[(1,.tok 3 1 i),(0,.cells [int o,int n,.sl 1 (b.map cI),.gs 1 ((Q06 out (ks.take i)).2.map cI) (.l 1),.sl 2 (a.map cAlt)])],ouS ou ko kt' ((Q0c (Q06 out (ks.take i)).1 t).map cEx)⟩)
    follows zky rfl rfl rfl rfl rfl ?_ rfl ⟨rfl,rfl⟩ rfl ?_ .nil ?_ ?_
   ·rintro σ ⟨kt',h1,h2,rfl⟩;rfl
   ·refine Q27.call hΓ rfl rfl rfl rfl zsy (Q4h Qzg zsy) hcall fun r ou' hq _ _=>?_;obtain⟨rfl,kt',h1,h2,rfl⟩:=hq;exact⟨rfl,kt',h1,h2,rfl⟩
   ·intro σ _;exact .nil
   rintro σ ⟨kt',h1,h2,rfl⟩;refine zA ?_;refine AOps.app tabOk rfl rfl rfl rfl rfl rfl rfl rfl rfl (Qve _ _ _ _ _ (by rfl) Qzy.symm) (.sl _ _) rfl ?_ ?_ ?_
   ·rw[Qzy];show (i+1) * 8<=_;omega
   ·rw[Qzy];show i+1<=_;omega
   refine zM ?_;refine cInv ⟨ks.length - (i+1),(i+1,kt'),fun k=>if k=1 then 2 else k,by omega,⟨by omega,⟨h1,h2⟩,rfl⟩,Z39 rfl zFS zsy ?_ rfl (by simp only[hsn];rfl) (Q4h Qzg zsy)⟩;repeat' first|exact Q1b.nil|refine zlc ?_|refine zld ?_ ?_|rfl
   ·simp only[AObj.ren,Z4g,Qzy];rfl
   ·simp only[hsn];simp only[AObj.ren,renL,AC.ren,Q4v,Q4w];rw[Z4r];rfl
  have Qz9:i=ks.length:=by simp at hb3;omega
  subst Qz9;rw[Z5w]at *;refine zA ?_;have hT:Q0c out (.mk o n b ks a)=(Q06 out ks).1++[⟨o,n,b,(Q06 out ks).2,a⟩]:=by simp only[Q0c]
  have hmap:(Q06 out ks).1.map cEx++[cEx ⟨o,n,b,(Q06 out ks).2,a⟩]=(Q0c out (.mk o n b ks a)).map cEx:=by rw[hT,Z4r];rfl
  have hw:WkF (.agg [int o,int n,.sl 1 (b.map cI),.gs 1 ((Q06 out ks).2.map cI) (.l 1),.sl 2 (a.map cAlt)]) (.agg (cEx ⟨o,n,b,(Q06 out ks).2,a⟩)):=WkF.agg (.cons (.refl _) (.cons (.refl _) (.cons (.refl _) (.cons (.gsE rfl) (.cons (.refl _) .nil)))));have hko:(bif Nat.beq ko kt then some AObj.dead else ouS ou ko kt ((Q06 out ks).1.map cEx) ko)=some (.cells [.gs 5 ((Q06 out ks).1.map cEx) (.o kt)]):=by rw[Q0d hne];exact Q6f hne _
  refine Qxu (va:=.one (.gs 5 ((Q06 out ks).1.map cEx++[cEx ⟨o,n,b,(Q06 out ks).2,a⟩]) (.l 2))) (σ1:=(St.set ⟨2,[(1,.tok 3 1 ks.length),(0,.cells [int o,int n,.sl 1 (b.map cI),.gs 1 ((Q06 out ks).2.map cI) (.l 1),.sl 2 (a.map cAlt)])],ouS ou ko kt ((Q06 out ks).1.map cEx)⟩ (.o kt) .dead).push (.tok 62 5 ((Q06 out ks).1.map cEx++[cEx ⟨o,n,b,(Q06 out ks).2,a⟩]).length))
   tabOk 7 6 [(3,.one (.gs 5 ((Q06 out ks).1.map cEx) (.o kt))),(4,.agg (cEx ⟨o,n,b,(Q06 out ks).2,a⟩))] follows zky rfl rfl rfl rfl rfl rfl rfl ?_ ?_ ?_ ?_
  ·refine Q0b.plain rfl (Q01.append (s:=5) (es:=(Q06 out ks).1.map cEx) (news:=[cEx ⟨o,n,b,(Q06 out ks).2,a⟩]) (ti:=ti33) (σ:=⟨2,[(1,.tok 3 1 ks.length),(0,.cells [int o,int n,.sl 1 (b.map cI),.gs 1 ((Q06 out ks).2.map cI) (.l 1),.sl 2 (a.map cAlt)])],ouS ou ko kt ((Q06 out ks).1.map cEx)⟩) tabOk rfl rfl rfl rfl rfl rfl (Qve _ 62 5 _ (.o kt) (Qfc ou ko kt _) rfl) (.sl _ _) rfl ?_ ?_)
   ·simp;show (_+1) * 88<=_;omega
   ·simp;omega
  ·refine .step rfl (zHP (zLD rfl rfl (Q6f hne _) rfl)) ?_;exact .step rfl (zHP (Q01.wk (Quk tabOk rfl) hw)) .nil
  ·refine .step rfl (zHP (zLD rfl rfl hko rfl)) ?_;exact .step rfl (zHP (Q01.wk (Quk tabOk rfl) hw)) .nil
  rw[hmap];refine zA ?_;refine Z2m (cs:=[.gs 5 ((Q06 out ks).1.map cEx) (.o kt)]) tabOk rfl rfl rfl rfl rfl rfl rfl hko zsy ?_;refine Qwl 2 (show 2 < 3 by omega) fun k hk=>⟨[(1,.one (.ptr (.o ko) 0))],⟨3,[],ouS ou ko k ((Q0c out (.mk o n b ks a)).map cEx)⟩,⟨fun d x hd=>?_,rfl,fun i x hx=>?_⟩,?_⟩
  ·by_cases e:1=d
   ·subst e;simp[Fr.get]at hd;subst hd;exact⟨_,rfl,Z7h rfl⟩
   ·simp[Fr.get,Q0d e]at hd
  ·have hk':(bif Nat.beq k ko then some (AObj.cells [.gs 5 ((Q0c out (.mk o n b ks a)).map cEx) (.l 2)])else bif Nat.beq k kt then some AObj.dead else ouS ou ko kt ((Q06 out ks).1.map cEx) k)=none:=hk;have k1:k≠ko:=fun e=>by subst e;simp at hk'
   rw[Q0d k1]at hk';have k2:k≠kt:=fun e=>by subst e;simp at hk'
   rw[Q0d k2]at hk';simp only[cond_false,Q4x k1 k2]at hk';cases i with
   |l m=>cases hx
   |o m=>
    have hx':ouS ou ko k ((Q0c out (.mk o n b ks a)).map cEx) m=some x:=hx;by_cases e:m=k
    ·subst e;rw[Qfc]at hx';cases hx';exact⟨.l 2,_,rfl,rfl,rfl⟩
    ·by_cases e2:m=ko
     ·subst e2;rw[Q6f e]at hx';cases hx';refine⟨.o m,.cells [.gs 5 ((Q0c out (.mk o n b ks a)).map cEx) (.l 2)],?_,rfl,?_⟩
      ·show (bif Nat.beq m m then _ else _)=_;rw[Q5i];rfl
      ·simp only[AObj.sub,subL,AC.sub];rw[Qdl _ zsy];rfl
     ·rw[Q4x e2 e]at hx';have e3:m≠kt:=fun e=>by rw[e,ht]at hx';cases hx'
      refine⟨.o m,x,?_,rfl,(Z2h x (Qzg m x hx')).symm⟩;show (bif Nat.beq m ko then _ else bif Nat.beq m kt then _ else ouS ou ko kt _ m)=_;rw[Q0d e2,Q0d e3];exact (Q4x e2 e3 _).trans hx'
  ·have hk':(bif Nat.beq k ko then some (AObj.cells [.gs 5 ((Q0c out (.mk o n b ks a)).map cEx) (.l 2)])else bif Nat.beq k kt then some AObj.dead else ouS ou ko kt ((Q06 out ks).1.map cEx) k)=none:=hk;have k1:k≠ko:=fun e=>by subst e;simp at hk'
   rw[Q0d k1]at hk';have k2:k≠kt:=fun e=>by subst e;simp at hk'
   rw[Q0d k2]at hk';simp only[cond_false,Q4x k1 k2]at hk';refine zA ?_;refine zS (zLD rfl rfl (Q6f (Z6o k1) _) rfl) ?_;refine zM ?_;refine Qwm rfl (Z7h ?_) zsy (Q4h Qzg zsy) ⟨rfl,k,hk',Z6o k1,rfl⟩;simp
theorem Qju(hΓ:GI Γ)(t:Tr)(ht:okT t)(hsz:(Q0c [] t).length<=1048576):Q09 Tryz.prog Γ 13 [.one (.box (cNd t))] (.one (.sl 5 ((Q0c [] t).map cEx))):=by
 intro ou;refine zwk 7 Tryz.func13 fun hou=>?_;iterate 11 (refine zO ?_)
 refine Q00.grow 0 0 62 5 rfl rfl ?_;refine zA ?_;refine Qwl 0 (show 0 < 2 by omega) fun ko hko=>⟨[(4,.one (.box (cNd t))),(3,.one (.ptr (.o ko) 0))],
  ⟨2,[(1,.tok 62 5 0)],updO ou ko (.cells [.gs 5 [] (.l 1)])⟩,⟨CedFr.get ?_,rfl,fun i x hx=>?_⟩,?_⟩
 ·exact .cons rfl (FV.sub_o _ zsy) (.cons rfl rfl .nil)
 ·have hko:ou ko=none:=hko;cases i with
  |l m=>
   by_cases e:1=m
   ·subst e;cases hx;exact⟨.l 1,_,rfl,rfl,rfl⟩
   ·simp[St.get,Q28,Q0d e]at hx
  |o m=>
   have hx':updO ou ko (.cells [.gs 5 [] (.l 1)]) m=some x:=hx;by_cases e:ko=m
   ·subst e;rw[Q07]at hx';cases hx';exact⟨.l 0,_,rfl,rfl,rfl⟩
   ·rw[Q05 _ e]at hx';exact⟨.o m,x,hx',rfl,(Z2h x (hou m x hx')).symm⟩
 have hko:ou ko=none:=hko;refine Qwl 1 (show 1 < 2 by omega) fun kt hkt=>⟨[(4,.one (.box (cNd t))),(3,.one (.ptr (.o ko) 0))],
  ⟨2,[],ouS ou ko kt (([]:List Ex).map cEx)⟩,⟨CedFr.get ?_,rfl,fun i x hx=>?_⟩,?_⟩
 ·exact .cons rfl (FV.sub_o _ zsy) (.cons rfl rfl .nil)
 ·have hkt:updO ou ko (.cells [.gs 5 [] (.l 1)]) kt=none:=hkt;have Z14:ko≠kt:=fun e=>by subst e;rw[Q07]at hkt;cases hkt
  cases i with
  |l m=>cases hx
  |o m=>
   have hx':ouS ou ko kt (([]:List Ex).map cEx) m=some x:=hx;by_cases e:m=kt
   ·subst e;rw[Qfc]at hx';cases hx';exact⟨.l 1,_,rfl,rfl,rfl⟩
   ·by_cases e2:m=ko
    ·subst e2;rw[Q6f Z14]at hx';cases hx';exact⟨.o m,.cells [.gs 5 [] (.l 1)],Q07 _ _ _,rfl,rfl⟩
    ·rw[Q4x e2 e]at hx';refine⟨.o m,x,?_,rfl,(Z2h x (hou m x hx')).symm⟩;show updO ou ko (.cells [.gs 5 [] (.l 1)]) m=_;rw[Q05 _ (Z6o e2)];exact hx'
 have hkt:updO ou ko (.cells [.gs 5 [] (.l 1)]) kt=none:=hkt;have hot:ko≠kt:=fun e=>by subst e;rw[Q07]at hkt;cases hkt
 rw[Q05 _ hot]at hkt;have hcall:=Qpt hΓ t ht ou ko kt [] hou hko hkt hot hsz;refine Qv3 hΓ rfl rfl rfl rfl rfl rfl rfl zsy (Q4h hou zsy) hcall fun r ou' hq Qz6 Z0n=>?_;obtain⟨rfl,kt',h1,h2,rfl⟩:=hq;refine zA ?_;refine zS (zLD rfl rfl (Q6f h2 _) rfl) ?_;refine Z2n 6 rfl (y:=.one (.sl 5 ((Q0c [] t).map cEx))) (.one (.gsE rfl)) ?_;refine AOps.lessO ⟨2,[],ou⟩ rfl (fun i o ho=>?_) ?_
 ·cases i with
  |l m=>cases ho
  |o m=>
   have ho':ou m=some o:=ho;show ouS ou ko kt' _ m=some o;have e1:m≠ko:=fun e=>by rw[e,hko]at ho';cases ho'
   have e3:m≠kt':=fun e=>by rw[←e,ho']at h1;cases h1
   rw[Q4x e1 e3];exact ho'
 refine zA ?_;exact Q09.fin rfl (Z7h rfl) zsy hou rfl
end Go.Proofs.YtlmokgooijbcdaaGreatDoor
namespace Go.CoreX
def Q67 (e:List Ex)(k:Nat):Tr:=(Q0q e).getD k default
theorem Q5u(hk:Q1d e){x:Ex}(hx:e[i]?=some x):Q67 e i=.mk x.op x.n x.binds (x.kids.map fun k=>Q67 e k.toNat) x.alts:=by
 have hi:=(Z49.1 hx).1;have hs:e=e.take i++x::e.drop (i+1):=by obtain⟨h2,h3⟩:=Z49.1 hx;rw[←h3,←Z3k h2,Z5u]
 have hl:(e.take i).length=i:=by simp;omega
 have h1:=Qbj (e.take i) (e.drop (i+1)) x;rw[←hs,hl]at h1;unfold Q67;rw[h1];simp only[Q4i,Tr.mk.injEq,true_and,and_true];refine Z4s fun k hkk=>?_;have hb:=hk i x hx k hkk;have h2:=Q6u (e:=e.take i) (l:=x::e.drop (i+1)) (i:=k.toNat) (by rw[hl];omega);rw[←hs]at h2;exact h2.symm
theorem Qiv{t s:Tr}(ht:okT t)(h:s∈t.kids):okT s:=by
 cases t with
 |mk o m b k a=>exact Q3n.1 ht.2.2.2.2 s h
end Go.CoreX
namespace Go.Proofs.YtlmokgooijbcdaaGreatDoor
variable {Γ:List (Nat×List AC)}
end Go.Proofs.YtlmokgooijbcdaaGreatDoor
namespace Go.CoreX
mutual
def cntN:Tr->Nat
 |.mk _ _ _ k _=>Q1q k+1
def Q1q:List Tr->Nat
 |[]=>0
 |t::l=>cntN t+Q1q l
end
mutual
theorem Q53:∀(t:Tr)(out:List Ex),(Q0c out t).length=out.length+cntN t
 |.mk o n b k a,out=>by have:=Qek k out;simp only[Q0c,cntN,Z4g,Z4o];omega
theorem Qek:∀(l:List Tr)(out:List Ex),(Q06 out l).1.length=out.length+Q1q l
 |[],out=>by simp[Q06,Q1q]
 |t::l,out=>by have h1:=Q53 t out;have h2:=Qek l (Q0c out t);simp only[Q06,Q1q];omega
end
end Go.CoreX
namespace Go.Proofs.YtlmokgooijbcdaaGreatDoor
variable {Γ:List (Nat×List AC)}
end Go.Proofs.YtlmokgooijbcdaaGreatDoor
namespace Go.CoreX
theorem Qf2(h:check e=0):∀x∈e,shape x=true:=by
 intro x hx;unfold check body at h;by_cases h1:Q2p e=0
 ·rw[if_neg (by simpa using h1)]at h;by_cases h2:Q2d (Q18 false e) e=0
  ·have h3:=(Q3t _ e).1 h2 x hx;unfold Q18 at h3;simp only[Bool.false_and,Bool.not_false,Bool.true_and,Z2z]at h3;by_cases h4:Q91 x.op=true
   ·rw[if_pos h4]at h3;cases h3
   ·rw[if_neg h4]at h3;unfold Q2k at h3;by_cases h5:shape x=false
    ·rw[if_pos h5]at h3;cases h3
    ·simpa using h5
  ·rw[if_pos h2]at h;exact absurd h h2
 ·rw[if_pos h1]at h;exact absurd h h1
end Go.CoreX
namespace Go.Proofs.YtlmokgooijbcdaaGreatDoor
variable {Γ:List (Nat×List AC)}
def ow8 (l:List Int):Option Nat->AC
 |none=>.lit (.slice none 0 0)
 |some cap=>.arr (.l 0) 1 0 (l.map cI).length cap
def st8 (l:List Int)(ou:Q03):Option Nat->St
 |none=>⟨0,[],ou⟩
 |some cap=>⟨1,[(0,.cells (vec 1 (l.map cI) cap))],ou⟩
@[simp] theorem ids_ow8 (l l':List Int) (ou:Q03) (oc:Option Nat):(ow8 l oc).ids (inL (st8 l' ou oc).n):=by cases oc <;> simp[ow8,st8,AC.ids,inL]
end Go.Proofs.YtlmokgooijbcdaaGreatDoor
namespace Go.CoreX
end Go.CoreX
namespace Go.Proofs.YtlmokgooijbcdaaGreatDoor
variable {Γ:List (Nat×List AC)}
end Go.Proofs.YtlmokgooijbcdaaGreatDoor
namespace Go.CoreX
open Go.Abs (orI subI anI)
def ex0:Ex:=⟨0,0,[],[],[]⟩
def exN (e:List Ex)(i:Nat):Ex:=e.getD i ex0
def shK (e:List Ex)(k:Int):Tr:=.mk (exN e k.toNat).op (exN e k.toNat).n (exN e k.toNat).binds [] []
end Go.CoreX
namespace Go.Proofs.YtlmokgooijbcdaaGreatDoor
variable {Γ:List (Nat×List AC)}
def shD (e:List Ex)(l:List Int):List (List AC):=l.map fun k=>cB (shK e k)
@[simp] theorem ids_shD (p:Abs.Id->Prop) (e:List Ex) (l:List Int):idsS p (shD e l):=Q2w (fun k=>by simp[cB]) l
@[simp] theorem ren_shD (ρ:Nat->Nat) (e:List Ex) (l:List Int):renS ρ (shD e l)=shD e l:=Q2r ρ _ zsy
end Go.Proofs.YtlmokgooijbcdaaGreatDoor
namespace Go.CoreX
end Go.CoreX
namespace Go.Proofs.YtlmokgooijbcdaaGreatDoor
variable {Γ:List (Nat×List AC)}
theorem W_ok(hΓ:GI Γ)(n:Int):Q09 Tryz.prog Γ 9 [.one (int n)] (.one (.box (cNd (.mk 1 n [] [] [])))):=by
 intro ou;refine zwk 5 Tryz.func9 fun hou=>?_;refine zA ?_;refine Qw1 (ws:=[.one (int 1),.one (int n),.one (.sl 1 (Q4j []))]) hΓ (N_ok 1 n []) rfl rfl rfl rfl rfl rfl ?_ hou zsy ?_
 ·exact .cons (.refl _) (.cons (.refl _) (.cons (.one (.nilS 1)) .nil))
 refine zA ?_;exact Q09.fin rfl (Z7h rfl) zsy hou rfl
end Go.Proofs.YtlmokgooijbcdaaGreatDoor
namespace Go.CoreX
abbrev Nb:=Option (Nat×Nat)
structure LAlt where
 tag:Int
 nb:Nb
 binds:List Int
def LAlt.er (a:LAlt):Alt:=⟨a.tag,a.binds⟩
inductive LTr where
 |mk (id:Nat) (op n:Int) (nb:Nb) (binds:List Int) (kids:List LTr) (alts:List LAlt)
instance:Inhabited LTr:=⟨.mk 0 0 0 none [] [] []⟩
def LTr.id:LTr->Nat|.mk i _ _ _ _ _ _=>i
def LTr.kids:LTr->List LTr|.mk _ _ _ _ _ k _=>k
mutual
def erT:LTr->Tr
 |.mk _ o n _ b k a=>.mk o n b (erTs k) (a.map LAlt.er)
def erTs:List LTr->List Tr
 |[]=>[]
 |t::ts=>erT t::erTs ts
end
theorem Q2s:∀l:List LTr,erTs l=l.map erT
 |[]=>rfl
 |t::l=>by simp[erTs,Q2s l]
end Go.CoreX
namespace Go.Proofs.YtlmokgooijbcdaaGreatDoor
variable {Γ:List (Nat×List AC)}
def bC:Nb->List Int->AC
 |none,l=>.sl 1 (l.map cI)
 |some (a,cap),l=>.arr (.o a) 1 0 (l.map cI).length cap
def bO:Nb->List Int->List (Nat×AObj)
 |none,_=>[]
 |some (a,cap),l=>[(a,.cells (vec 1 (l.map cI) cap))]
def lAlt (x:LAlt):List AC:=[int x.tag,bC x.nb x.binds]
def aO (l:List LAlt):List (Nat×AObj):=l.flatMap fun x=>bO x.nb x.binds
def kC (l:List LTr):List (List AC):=l.map fun t=>[.ptr (.o t.id) 0]
def lC:LTr->List AC
 |.mk _ o n nb b k a=>[int o,int n,bC nb b,.sl 1 (kC k),.sl 2 (a.map lAlt)]
mutual
def objs:LTr->List (Nat×AObj)
 |.mk i o n nb b k a=>(i,.cells [int o,int n,bC nb b,.sl 1 (kC k),.sl 2 (a.map lAlt)])::(bO nb b++aO a)++Q46 k
def Q46:List LTr->List (Nat×AObj)
 |[]=>[]
 |t::ts=>objs t++Q46 ts
end
abbrev keys (l:List (Nat×AObj)):List Nat:=l.map (·.1)
def Owns (ou:Q03)(l:List (Nat×AObj)):Prop:=∀p∈l,ou p.1=some p.2
theorem Owns.app{l r:List (Nat×AObj)}:Owns ou (l++r)↔Owns ou l/\Owns ou r:=by
 unfold Owns;constructor
 ·exact fun h=>⟨fun p hp=>h p (by simp[hp]),fun p hp=>h p (by simp[hp])⟩
 ·rintro⟨h1,h2⟩ p hp;rcases Z50.1 hp with hp|hp
  ·exact h1 p hp
  ·exact h2 p hp
theorem Owns.frame{ou':Q03}{l:List (Nat×AObj)}(h:Owns ou l)(hf:∀j∈keys l,ou' j=ou j):Owns ou' l:=fun p hp=>(hf p.1 (Z5b hp)).trans (h p hp)
theorem Qfe:∀l:List LTr,Q46 l=l.flatMap objs
 |[]=>rfl
 |t::l=>by simp[Q46,Qfe l]
theorem Q8q:∀{t:LTr},Owns ou (objs t)->ou t.id=some (.cells (lC t))
 |.mk i o n nb b k a,h=>h (i,.cells [int o,int n,bC nb b,.sl 1 (kC k),.sl 2 (a.map lAlt)]) (by simp[objs])
theorem Qq3(p:Abs.Id->Prop)(hp:∀k,p (.o k))(nb:Nb)(l:List Int):(bC nb l).ids p:=by
 cases nb with
 |none=>simp[bC,AC.ids]
 |some x=>exact hp _
theorem ids_kC(p:Abs.Id->Prop)(hp:∀k,p (.o k))(l:List LTr):idsS p (kC l):=Q2w (f:=fun t:LTr=>[.ptr (.o t.id) 0]) (fun t=>by simp only[idsL,AC.ids,and_true];exact hp _) l
theorem Qhf(p:Abs.Id->Prop)(hp:∀k,p (.o k))(l:List LAlt):idsS p (l.map lAlt):=Q2w (f:=lAlt) (fun t=>by simp only[lAlt,idsL,AC.ids,and_true,true_and];exact Qq3 p hp _ _) l
theorem Qr3{Γ:List (Nat×List AC)}{F:Nat->Prop}{w:World}{C C':Ctx}(hi:Inv Γ F w C σ)(hc:Chg isO w C w C'){nb:Nb}{l:List Int}(ho:Owns σ.ou (bO nb l))(hp:∀k∈keys (bO nb l),∀a:Addr,a.block=C.blk (.o k)->C'.prot a){v:Value}
  (hr:R w C (bC nb l) v):R w C' (.sl 1 (l.map cI)) v:=by
 cases nb with
 |none=>exact R.chg hc (.sl 1 (l.map cI)) v (Qfu _ _) hr
 |some x=>
  obtain⟨a,cap⟩:=x;have hg:σ.get (.o a)=some (.cells (vec 1 (l.map cI) cap)):=ho (a,.cells (vec 1 (l.map cI) cap)) (by simp[bO]);obtain⟨hok,zs,T,b1,b2,b3,b4⟩:=hi.obj _ _ hg;simp only[bC,R,Z6n]at hr;refine⟨some ⟨C.blk (.o a),0,none⟩,cap,hr.2.1,hr.2.2,.inr ⟨_,rfl,rfl,?_⟩⟩;have hl:∀x∈l.map cI,x.length=1:=fun x hx=>by obtain⟨n,_,rfl⟩:=Z5a.1 hx;rfl
  have hfl:=Q4o hl;have hzl:=RV.length b3;have hfi:idsL isO (l.map cI).flatten:=by refine Q2x.2 fun c hc=>?_;obtain⟨e,he,hce⟩:=List.mem_flatten.1 hc;obtain⟨n,_,rfl⟩:=Z5a.1 he;simp[cI]at hce;subst hce;trivial
  have hv:RV w C' (l.map cI).flatten (zs.take ((l.map cI).length * 1)):=by refine RV.chg hc _ _ hfi ?_;have:=b3.take ((l.map cI).length * 1);rwa [vec,Z5v zoy,Z5x zoy]at this
  refine RS.ofVals 0 hl hv fun j v hj=>⟨?_,hp a (by simp[bO]) _ rfl⟩;have h2:j < (l.map cI).length * 1:=by have:=(Z49.1 hj).1;simp at this ⊢;omega
  rw[Z4d h2]at hj;rw[Z6l,cell_of_row _ _ _ _ _ _ b1];simpa using hj
theorem Qrc{Γ:List (Nat×List AC)}{F:Nat->Prop}{w:World}{C C':Ctx}{σ:St}(hi:Inv Γ F w C σ)(hc:Chg isO w C w C'):∀{l:List LAlt},Owns σ.ou (aO l)->(∀k∈keys (aO l),∀a:Addr,a.block=C.blk (.o k)->C'.prot a)->∀ad:Addr,
  RS w C 2 (l.map lAlt) ad->RS w C' 2 ((l.map LAlt.er).map cAlt) ad
 |[],_,_,ad,_=>by simp[RS]
 |x::l,ho,hp,ad,hr=>by have e:aO (x::l)=bO x.nb x.binds++aO l:=rfl;rw[e]at ho hp;obtain⟨ho1,ho2⟩:=Owns.app.1 ho;simp only[Z4t,RS,lAlt,RL]at hr;obtain⟨_,⟨⟨u,hu,hup,hur⟩,⟨v,hv,hvp,hvr⟩,_⟩,hrest⟩:=hr;refine⟨rfl,⟨⟨u,hu,hc.prot _ hup,R.chg hc _ u trivial hur⟩,⟨v,hv,hc.prot _ hvp,?_⟩,trivial⟩,Qrc hi hc ho2 (fun k hk=>hp k (by simp[keys]at hk ⊢;exact .inr hk)) _ hrest⟩;exact Qr3 hi hc ho1 (fun k hk=>hp k (by simp[keys]at hk ⊢;exact .inl hk)) hvr
mutual
theorem Qkm{Γ:List (Nat×List AC)}{F:Nat->Prop}{w:World}{C C':Ctx}{σ:St}(hi:Inv Γ F w C σ)(hc:Chg isO w C w C'):∀t:LTr,Owns σ.ou (objs t)->(∀k∈keys (objs t),∀a:Addr,a.block=C.blk (.o k)->C'.prot a)->RL w C' (cTr (erT t)) ⟨C.blk (.o t.id),0,none⟩
 |.mk i o n nb b k a,ho,hp=>by
  have hg:σ.get (.o i)=some (.cells (lC (.mk i o n nb b k a))):=Q8q (t:=.mk i o n nb b k a) ho;obtain⟨hok,zs,T,b1,b2,b3,b4⟩:=hi.obj _ _ hg;have e:objs (.mk i o n nb b k a)=[(i,.cells [int o,int n,bC nb b,.sl 1 (kC k),.sl 2 (a.map lAlt)])]++((bO nb b++aO a)++Q46 k):=by simp[objs]
  rw[e]at ho hp;obtain⟨_,ho2⟩:=Owns.app.1 ho;obtain⟨ho3,Qzi⟩:=Owns.app.1 ho2;obtain⟨hob,hoa⟩:=Owns.app.1 ho3;have hpb:∀k'∈keys (bO nb b),∀a:Addr,a.block=C.blk (.o k')->C'.prot a:=fun k' hk=>hp k' (by simp[keys]at hk ⊢;exact .inr (.inl hk));have hpa:∀k'∈keys (aO a),∀a:Addr,a.block=C.blk (.o k')->C'.prot a:=fun k' hk=>hp k' (by simp[keys]at hk ⊢;exact .inr (.inr (.inl hk)));have hpk:∀k'∈keys (Q46 k),∀a:Addr,a.block=C.blk (.o k')->C'.prot a:=fun k' hk=>hp k' (by simp[keys]at hk ⊢;exact .inr (.inr (.inr hk)));simp only[lC,RV,R]at b3;obtain⟨v1,_,rfl,⟨rfl,_⟩,v2,_,rfl,⟨rfl,_⟩,v3,_,rfl,h3,v4,_,rfl,⟨a4,c4,rfl,l4,h4⟩,v5,_,rfl,⟨a5,c5,rfl,l5,h5⟩,rfl⟩:=b3;have hrv:RV w C' (cTr (erT (.mk i o n nb b k a))) [.int .i64 o,.int .i64 n,v3,.slice a4 (kC k).length c4,.slice a5 (a.map lAlt).length c5]:=by
   simp only[cTr,erT,Qxn,Qxo,Qxp,Qxq,Qxr,RV];refine⟨_,_,rfl,by simp[R,Value.oneCell'],_,_,rfl,by simp[R,Value.oneCell'],_,_,rfl,Qr3 hi hc hob hpb h3,_,_,rfl,?_,_,_,rfl,?_,rfl⟩
   ·refine⟨a4,c4,by simp[kC,Q2s],by simpa[kC,Q2s]using l4,?_⟩;rcases h4 with h4|⟨ad,rfl,hs,h4⟩
    ·left;simp only[kC,Z4u]at h4;subst h4;rfl
    ·exact .inr ⟨ad,rfl,hs,Qgx hi hc k Qzi hpk ad h4⟩
   ·refine⟨a5,c5,by simp,by simpa using l5,?_⟩;rcases h5 with h5|⟨ad,rfl,hs,h5⟩
    ·left;simp only[Z4u]at h5;subst h5;rfl
    ·exact .inr ⟨ad,rfl,hs,Qrc hi hc hoa hpa ad h5⟩
  refine RL.of_new 0 hrv (fun j v hj=>?_) (fun ad ha=>?_)
  ·rw[Z6l];show w.cell? ⟨C.blk (.o i),j,none⟩=some v;rw[cell_of_row _ _ _ _ _ _ b1];simpa using hj
  ·exact hp i (by simp[keys]) _ ha
theorem Qgx{Γ:List (Nat×List AC)}{F:Nat->Prop}{w:World}{C C':Ctx}{σ:St}(hi:Inv Γ F w C σ)(hc:Chg isO w C w C'):∀l:List LTr,Owns σ.ou (Q46 l)->(∀k∈keys (Q46 l),∀a:Addr,a.block=C.blk (.o k)->C'.prot a)->∀ad:Addr,RS w C 1 (kC l) ad->RS w C' 1 (Q1a (erTs l)) ad
 |[],_,_,ad,_=>by simp[erTs,Q1a,RS]
 |t::l,ho,hp,ad,hr=>by have e:Q46 (t::l)=objs t++Q46 l:=rfl;rw[e]at ho hp;obtain⟨ho1,ho2⟩:=Owns.app.1 ho;simp only[kC,Z4t,RS,RL,R]at hr;obtain⟨_,⟨⟨u,hu,hup,_,hur⟩,_⟩,hrest⟩:=hr;simp only[erTs,Q1a,RS];refine⟨rfl,⟨⟨u,hu,hc.prot _ hup,⟨_,hur,rfl,?_⟩⟩,trivial⟩,Qgx hi hc l ho2 (fun k hk=>hp k (by simp[keys]at hk ⊢;exact .inr hk)) _ hrest⟩;rw[Qlr];exact Qkm hi hc t ho1 fun k hk=>hp k (by simp[keys]at hk ⊢;exact .inl hk)
end
mutual
theorem Q9u:∀t:LTr,∀p∈objs t,∃cs,p.2=.cells cs
 |.mk i o n nb b k a,p,hp=>by
  simp only[objs,Z3g,Z53,Z50]at hp;have hb:∀(nb:Nb) (l:List Int),∀p∈bO nb l,∃cs,p.2=.cells cs:=fun nb l p hp=>by
   cases nb with
   |none=>simp[bO]at hp
   |some x=>simp[bO]at hp;subst hp;exact⟨_,rfl⟩
  rcases hp with rfl|(hp|hp)|hp
  ·exact⟨_,rfl⟩
  ·exact hb _ _ p hp
  ·unfold aO at hp;obtain⟨x,_,hx⟩:=Z58.1 hp;exact hb _ _ p hx
  ·exact Qcd k p hp
theorem Qcd:∀l:List LTr,∀p∈Q46 l,∃cs,p.2=.cells cs
 |[],p,hp=>by simp[Q46]at hp
 |t::l,p,hp=>by
  simp only[Q46,Z50]at hp;rcases hp with hp|hp
  ·exact Q9u t p hp
  ·exact Qcd l p hp
end
theorem Qxz{t:LTr}(h:Owns σ.ou (objs t)):Qrg σ (.one (.ptr (.o t.id) 0)) (.one (.box (cTr (erT t)))):=by intro Γ F w C v hi hr;simp only[RF,R]at hr;refine⟨_,hr.2,rfl,Qkm hi hi.stillChg t h fun k hk a ha=>?_⟩;obtain⟨p,hp,rfl⟩:=Z5a.1 hk;obtain⟨cs,hcs⟩:=Q9u t p hp;show a.block < w.heap.size;rw[ha];exact (Quf (hi.obj (.o p.1) p.2 (h p hp)).2 (by rw[hcs];rfl)).2
end Go.Proofs.YtlmokgooijbcdaaGreatDoor
namespace Go.CoreX
def frB (f:Int)(l:List Int):List Int:=(List.range l.length).map fun i:Nat=>f+i
def frN (m:Nm)(f:Int)(l:List Int):Nm:=Q83 m l (frB f l)
end Go.CoreX
namespace Go.Proofs.YtlmokgooijbcdaaGreatDoor
variable {Γ:List (Nat×List AC)}
end Go.Proofs.YtlmokgooijbcdaaGreatDoor
namespace Go.CoreX
def rnAs (nm:Nm)(f:Int):List LAlt->List LAlt×Nm×Int
 |[]=>([],nm,f)
 |x::l=>(⟨x.tag,x.nb,frB f x.binds⟩::(rnAs (frN nm f x.binds) (f+x.binds.length) l).1,(rnAs (frN nm f x.binds) (f+x.binds.length) l).2)
def ren1 (o:Int)(nm:Nm)(f:Int)(b:List Int):List Int×Nm×Int:=if o=9 then (b,nm,f)else (frB f b,frN nm f b,f+b.length)
mutual
def rnL (nm:Nm)(f:Int):LTr->LTr×Nm×Int
 |.mk i o n nb b k a=>
  let s1:=ren1 o nm f b
  let s2:=rnAs s1.2.1 s1.2.2 a
  let s3:=rnLs s2.2.1 s2.2.2 k
  (.mk i o (if o=0 then (nm n).getD n else n) nb s1.1 s3.1 s2.1,s3.2)
def rnLs (nm:Nm)(f:Int):List LTr->List LTr×Nm×Int
 |[]=>([],nm,f)
 |t::l=>((rnL nm f t).1::(rnLs (rnL nm f t).2.1 (rnL nm f t).2.2 l).1,(rnLs (rnL nm f t).2.1 (rnL nm f t).2.2 l).2)
end
def ownB (nb:Nb)(b:List Int):Prop:=nb=none->b=[]
mutual
def okL:LTr->Prop
 |.mk _ o _ nb b k a=>(o≠9->ownB nb b)/\b.length<=1048576/\k.length<=1048576/\a.length<=1048576/\(∀x∈a,ownB x.nb x.binds/\x.binds.length<=1048576)/\okLs k
def okLs:List LTr->Prop
 |[]=>True
 |t::l=>okL t/\okLs l
end
theorem Qks:∀{l:List LTr},okLs l↔∀t∈l,okL t
 |[]=>by simp[okLs]
 |t::l=>by simp[okLs,Qks (l:=l)]
end Go.CoreX
namespace Go.Proofs.YtlmokgooijbcdaaGreatDoor
variable {Γ:List (Nat×List AC)}
theorem Qfn(l r:List (Nat×AObj)):keys (l++r)=keys l++keys r:=by simp[keys]
theorem Q7f{k:Nat}{os:List AObj}(h:OuOk ou)(ho:∀o∈os,o.ids isO):OuOk (Q1i ou k os):=by
 intro m o hm;rcases Z6e m k with h1|h1
 ·rw[Q1l h1]at hm;exact h m o hm
 ·obtain⟨p,rfl⟩:∃p,m=k+p:=⟨m - k,by omega⟩;rw[Q10]at hm;exact ho o (Z5c hm)
structure NewO (ou ou':Q03)(L:List (Nat×AObj)):Prop where
 own:Owns ou' L
 new:∀k∈keys L,ou k=none
 old:∀m,m∉keys L->ou' m=ou m
 ok:OuOk ou'
 nd:(keys L).Nodup
theorem NewO.nil(h:OuOk ou):NewO ou ou []:=⟨fun p hp=>by simp at hp,fun k hk=>by simp[keys]at hk,fun _ _=>rfl,h,by simp[keys]⟩
theorem NewO.trans{ou1 ou2:Q03}{L M:List (Nat×AObj)}(h:NewO ou ou1 L)(k:NewO ou1 ou2 M):NewO ou ou2 (L++M):=by
 have hLM:∀j∈keys L,j∉keys M:=fun j hj hm=>by have h1:=k.new j hm;obtain⟨p,hp,rfl⟩:=Z5a.1 hj;rw[h.own p hp]at h1;cases h1
 refine⟨Owns.app.2 ⟨h.own.frame fun j hj=>k.old j (hLM j hj),k.own⟩,fun j hj=>?_,fun m hm=>?_,k.ok,?_⟩
 ·rw[Qfn,Z50]at hj;by_cases e:j∈keys L
  ·exact h.new j e
  ·rw[←h.old j e];exact k.new j (hj.resolve_left e)
 ·rw[Qfn,Z50,not_or]at hm;rw[k.old m hm.2,h.old m hm.1]
 ·rw[Qfn,Z5k];exact⟨h.nd,k.nd,fun a ha b hb e=>hLM a ha (e▸hb)⟩
theorem NewO.frame{ou ou':Q03}{L M:List (Nat×AObj)}(h:NewO ou ou' L)(ho:Owns ou M):Owns ou' M:=ho.frame fun j hj=>h.old j fun hm=>by obtain⟨p,hp,rfl⟩:=Z5a.1 hj;have:=h.new _ hm;rw[ho p hp]at this;cases this
end Go.Proofs.YtlmokgooijbcdaaGreatDoor
