/- Core expressions as plain data: an expression in order is the same expression. No condition. -/
import Derived.Test.YtlmokgooijbcdaaGreatDoorE3
import Derived.Shelf.Sort.Plain
import Derived.Shelf.Slices.In.SortNone
set_option maxRecDepth 10000
set_option maxHeartbeats 4000000
set_option linter.unusedVariables false
set_option linter.unusedSimpArgs false
theorem Qys:type_of% @Go.Abs.AObj.sub_f:=@Go.Abs.AObj.sub_f
theorem Qyt:type_of% @Go.Abs.AObj.sub_o:=@Go.Abs.AObj.sub_o
theorem Qyu:type_of% @Go.Abs.AOps.appOwn:=@Go.Abs.AOps.appOwn
theorem Qyv:type_of% @Go.Abs.AOps.callK:=@Go.Abs.AOps.callK
theorem Qyw:type_of% @Go.Abs.AOps.cedes:=@Go.Abs.AOps.cedes
theorem Qyy:type_of% @Go.Abs.AOps.storeOwn:=@Go.Abs.AOps.storeOwn
theorem Qzk:type_of% @Bool.or_eq_true:=@Bool.or_eq_true
theorem Qzv:type_of% @Int.toNat_natCast:=@Int.toNat_natCast
theorem Z0h:type_of% @List.flatMap_append:=@List.flatMap_append
theorem Z0k:type_of% @List.foldl_append:=@List.foldl_append
theorem Z0o:type_of% @List.getD_eq_getElem?_getD:=@List.getD_eq_getElem?_getD
theorem Z0x:type_of% @List.getElem?_replicate:=@List.getElem?_replicate
theorem Z11:type_of% @List.getElem_mem:=@List.getElem_mem
theorem Z1e:type_of% @List.map_append:=@List.map_append
theorem Z1i:type_of% @List.map_map:=@List.map_map
theorem Z1u:type_of% @List.mem_flatMap:=@List.mem_flatMap
theorem Z1x:type_of% @List.mem_map_of_mem:=@List.mem_map_of_mem
theorem Z20:type_of% @List.mem_or_eq_of_mem_set:=@List.mem_or_eq_of_mem_set
theorem Z26:type_of% @List.nodup_append:=@List.nodup_append
theorem Z28:type_of% @List.not_mem_nil:=@List.not_mem_nil
theorem Z2g:type_of% @List.take_add_one:=@List.take_add_one
theorem Z2h:type_of% @List.take_append_drop:=@List.take_append_drop
theorem Z45:type_of% @Go.Abs.Wk.box:=@Go.Abs.Wk.box
open Bool renaming eq_iff_iff->Qzd,or_eq_false_iff->Qzj
open List renaming count_append->Z04,count_cons->Z05,count_eq_zero->Z06,ext_getElem?->Z0c,find?_cons->Z0f,find?_eq_none->Z0g,getElem?_cons_zero->Z0r,getElem?_eq_none->Z0u,getElem?_set_ne->Z0y,length_eq_zero_iff->Z15,map_id->Z1h,map_take->Z1k,pairwise_cons->Z29,reverse_cons->Z2c,set_append_right->Z2d
open Nat renaming mul_one->Z36,sub_self->Z37
open Option renaming bind_some->Z3h,map_none->Z3l
open Go Go.Abs Go.CoreX
variable {α:Type}{i j n off ck kt ko:Nat}{e g:List Ex}{x:Operand}{v k m:Int}{o:Oper}{b kx ky params pre ks S:List Int}{a al:List Alt}{flat:Bool}{y:Nat×Int×Unit}{E:Env}{ops:Array Oper}{K:Cont}{fr frb fr':Fr}{σ:St}{ti tj:TI}{cs caps:List AC}{c:AC}{s:Option (List Int×List Int)}{es:List (List AC)}{vs:List FV}{rest hd:List Oper}{p:α->Bool}{q:Prop}{ou:Outer}{et:TypeId}{ts:List Tr}{β:Int->Int}
namespace Go.CoreX
structure Lab where
 op:Int
 n:Int
 binds:List Int
 ops:List Int
 alts:List Alt
 deriving DecidableEq
mutual
def sumT (g:Lab->Int):Tr->Int
 |.mk o n b k a=>g ⟨o,n,b,k.map Tr.op,a⟩+sumTs g k
def sumTs (g:Lab->Int):List Tr->Int
 |[]=>0
 |t::ts=>sumT g t+sumTs g ts
end
def mx (m d:Int):Int:=if d > m then d else m
mutual
def Q30:Tr->Int
 |.mk _ _ _ k _=>(Qaq k).foldl mx 0+1
def Qaq:List Tr->List Int
 |[]=>[]
 |t::ts=>Q30 t::Qaq ts
end
theorem Q8i:∀l:List Tr,Qaq l=l.map Q30
 |[]=>rfl
 |t::ts=>by simp[Qaq,Q8i ts]
theorem Qcj(g:Lab->Int):∀l:List Tr,sumTs g l=(l.map (sumT g)).sum
 |[]=>rfl
 |t::ts=>by simp[sumTs,Qcj g ts]
theorem Q2p(e:List Ex)(x:Ex):growL (e++[x])=growL e++[Q3k (growL e) x]:=by simp[growL,Qii]
theorem Q73{P:List α->Prop}(h0:P [])(h1:∀l x,P l->P (l++[x]))(l:List α):P l:=by
 have:∀l:List α,P l.reverse:=by
  intro l
  induction l with
  |nil=>exact h0
  |cons a l ih=>rw[Z2c];exact h1 _ _ ih
 simpa using this l.reverse
theorem Q1v(e:List Ex):(growL e).length=e.length:=by refine Q73 (P:=fun e=>(growL e).length=e.length) rfl (fun l x ih=>?_) e;rw[Q2p];simp[ih]
theorem Qmv(e l:List Ex):∃r,growL (e++l)=growL e++r:=by refine Q73 (P:=fun l=>∃r,growL (e++l)=growL e++r) ⟨[],by simp⟩ (fun l x ih=>?_) l;obtain⟨r,h⟩:=ih;exact⟨r++[Q3k (growL (e++l)) x],by rw[←Z01,Q2p,h];simp⟩
theorem Q9i{l r:List α}{d:α}(h:i < l.length):(l++r).getD i d=l.getD i d:=by simp[List.getD,Z0p h]
theorem Q5m{l:List Ex}(h:i < e.length):(growL (e++l)).getD i default=(growL e).getD i default:=by obtain⟨r,hr⟩:=Qmv e l;rw[hr,Q9i (by rw[Q1v];exact h)]
theorem Q9h(e l:List Ex)(x:Ex):(growL (e++x::l)).getD e.length default=Q3k (growL e) x:=by rw[show e++x::l=(e++[x])++l by simp,Q5m zsy,Q2p];simp[List.getD,Q1v]
theorem Qmu(e:List Ex)(x:Ex):grow (e++[x])=Q3k (growL e) x:=by unfold grow;have:=Q9h e [] x;simpa using this
def cnt:List Ex->Nat->Nat
 |[],_=>0
 |x::e,i=>x.kids.count (i:Int)+cnt e i
theorem Qgn(e l:List Ex)(i:Nat):cnt (e++l) i=cnt e i+cnt l i:=by
 induction e with
 |nil=>simp[cnt]
 |cons x e ih=>simp[cnt,ih,Z2p]
def Q0z (e:List Ex):Prop:=∀(j:Nat)(x:Ex),e[j]?=some x->∀k∈x.kids,0<=k/\k < (j:Int)
theorem Q3y{x:Ex}:Q0z (e++[x])↔Q0z e/\∀k∈x.kids,0<=k/\k < e.length:=by
 constructor
 ·intro h;refine⟨fun j y hj=>h j y ?_,?_⟩
  ·rw[Z0p (Z0v.1 hj).1];exact hj
  ·exact h e.length x zsy
 ·intro ⟨h1,h2⟩ j y hj;by_cases hl:j < e.length
  ·rw[Z0p hl]at hj;exact h1 j y hj
  ·rw[Z0q zoy]at hj;have:j=e.length:=by have:=(Z0v.1 hj).1;simp at this;omega
   subst this;simp at hj;subst hj;exact h2
theorem Qjp{l:List Ex}(h:Q0z (e++l)):Q0z e:=fun j y hj=>h j y (by rw[Z0p (Z0v.1 hj).1];exact hj)
structure Run (pre:List Ex)(N:Nat)(d p:List Int):Prop where
 dl:d.length=N
 pl:p.length=N
 pv:∀i,i < N->p.getD i 0=cnt pre i
 dv:∀i,i < pre.length->d.getD i 0=Q30 ((growL pre).getD i default)
 d0:∀i,pre.length<=i->d.getD i 0=0
theorem Q49(i:Nat):∀ks:List Int,ks.foldl (Q1q i) none=none
 |[]=>rfl
 |k::ks=>by rw[Z0l];exact Q49 i ks
theorem Q4z{l:List Int}(h:i < l.length):(l.set i v).getD i 0=v:=by simp[List.getD,h]
theorem getD_set_ne{l:List Int}(h:i≠j):(l.set i v).getD j 0=l.getD j 0:=by simp[List.getD,Z0y h]
theorem Qok{l:List Int}(h:i < l.length):l.set i (l.getD i 0)=l:=by
 apply Z0c;intro j;by_cases hj:i=j
 ·subst hj;simp[h,List.getD,Z0t h]
 ·rw[Z0y hj]
theorem Qi9{i N:Nat}:∀(ks:List Int)(d p:List Int),d.length=N->p.length=N->i < N->(∀k∈ks,0<=k/\k < i)->
  ∃p',ks.foldl (Q1q i) (some (d,p))=some (d.set i (ks.foldl (fun m k=>mx m (d.getD k.toNat 0)) (d.getD i 0)),p')/\p'.length=N/\∀j,j < N->p'.getD j 0=p.getD j 0+ks.count (j:Int)
 |[],d,p,hd,hp,hi,_=>⟨p,by rw[List.foldl_nil,List.foldl_nil,Qok (show i < d.length by omega)],hp,by simp⟩
 |k::ks,d,p,hd,hp,hi,hk=>by
  obtain⟨k0,k1⟩:=hk k zsy;have hks:∀k∈ks,0<=k/\k < i:=fun y hy=>hk y (by simp[hy]);obtain⟨p',h1,h2,h3⟩:=Qi9 ks (d.set i (mx (d.getD i 0) (d.getD k.toNat 0))) (p.set k.toNat (p.getD k.toNat 0+1)) (by simpa using hd) (by simpa using hp) hi hks;refine⟨p',?_,h2,fun j hj=>?_⟩
  ·rw[Z0l];have e1:Q1q i (some (d,p)) k=some (d.set i (mx (d.getD i 0) (d.getD k.toNat 0)),p.set k.toNat (p.getD k.toNat 0+1)):=by simp only[Q1q,Z3h,mx];rw[if_neg zoy]
   rw[e1,h1,List.set_set,Q4z zoy,Z0l];congr 2;have:∀(l:List Int) (m:Int),(∀k∈l,0<=k/\k < i)->l.foldl (fun m k'=>mx m ((d.set i (mx (d.getD i 0) (d.getD k.toNat 0))).getD k'.toNat 0)) m=l.foldl (fun m k'=>mx m (d.getD k'.toNat 0)) m:=by
    intro l
    induction l with
    |nil=>intro m _;rfl
    |cons y l ih=>
     intro m hl;have hy:=hl y zsy;simp only[Z0l];rw[getD_set_ne zoy,ih _ (fun z hz=>hl z (by simp[hz]))]
   rw[this ks _ hks]
  ·rw[h3 j hj,Z05];by_cases hkj:k.toNat=j
   ·subst hkj;rw[Q4z zoy];have:(k==((k.toNat:Nat):Int))=true:=by simp;omega
    rw[if_pos this];omega
   ·rw[getD_set_ne hkj];have:¬(k==(j:Int))=true:=by simp;omega
    rw[if_neg this];omega
theorem Qia{i N:Nat}:∀(ks:List Int)(d p:List Int),¬(∀k∈ks,0<=k/\k < i)->ks.foldl (Q1q i) (some (d,p))=none
 |[],d,p,h=>absurd zsy h
 |k::ks,d,p,h=>by
  rw[Z0l];by_cases hk:0<=k/\k < i
  ·have e1:Q1q i (some (d,p)) k=some (d.set i (mx (d.getD i 0) (d.getD k.toNat 0)),p.set k.toNat (p.getD k.toNat 0+1)):=by simp only[Q1q,Z3h,mx];rw[if_neg zoy]
   rw[e1];refine Qia (N:=N) ks _ _ fun h2=>h ?_;intro y hy;rcases Z1p.1 hy with rfl|hy
   ·exact hk
   ·exact h2 y hy
  ·have e1:Q1q i (some (d,p)) k=none:=by simp only[Q1q,Z3h];rw[if_pos zoy]
   rw[e1,Q49]
theorem Qbw(f:Int->Int):∀(l:List Int)(m:Int),l.foldl (fun m k=>mx m (f k)) m=(l.map f).foldl mx m
 |[],_=>rfl
 |k::l,m=>by simp[Qbw f l]
theorem Qdi(ts:List Tr)(x:Ex):Q30 (Q3k ts x)=(x.kids.map fun k=>Q30 (ts.getD k.toNat default)).foldl mx 0+1:=by simp only[Q3k,Q30,Q8i,Z1i];rfl
theorem Run.step{pre:List Ex}{N:Nat}{d p:List Int}{x:Ex}(h:Run pre N d p)(hN:pre.length < N)(hk:∀k∈x.kids,0<=k/\k < pre.length):∃d' p',Q24 (some (d,p)) (x,pre.length)=some (d',p')/\Run (pre++[x]) N d' p':=by
 obtain⟨p',h1,h2,h3⟩:=Qi9 x.kids d p h.dl h.pl hN hk;have hdl:=h.dl;refine⟨_,p',by simp only[Q24,h1,Z3m];rfl,by simpa using hdl,h2,fun i hi=>?_,fun i hi=>?_,fun i hi=>?_⟩
 ·rw[h3 i hi,h.pv i hi,Qgn];simp[cnt]
 ·rw[List.set_set];simp only[Z12,Z1b]at hi;by_cases e:pre.length=i
  ·subst e;rw[Q4z zoy,Q4z zoy,Q9h pre [] x,Qdi,h.d0 _ (Z30 _),Qbw];congr 2;refine Z1f fun k hk2=>?_;have:=hk k hk2;exact h.dv _ zoy
  ·rw[getD_set_ne e,Q5m zoy,h.dv i zoy]
 ·simp only[Z12,Z1b]at hi;rw[List.set_set,getD_set_ne zoy,h.d0 i zoy]
theorem Q7b(l:List (Ex×Nat)):l.foldl Q24 none=none:=by
 induction l with
 |nil=>rfl
 |cons x l ih=>
  have:Q24 none x=none:=by simp[Q24,Q49]
  rw[Z0l,this,ih]
theorem Qhb{N:Nat}:∀(l pre:List Ex)(d p:List Int),Run pre N d p->Q0z pre->pre.length+l.length=N->
  (Q0z (pre++l)/\∃d' p',(l.zipIdx pre.length).foldl Q24 (some (d,p))=some (d',p')/\Run (pre++l) N d' p')∨(¬Q0z (pre++l)/\(l.zipIdx pre.length).foldl Q24 (some (d,p))=none)
 |[],pre,d,p,h,hk,_=>.inl ⟨by simpa using hk,d,p,rfl,by simpa using h⟩
 |x::l,pre,d,p,h,hk,hN=>by
  rw[List.zipIdx_cons,Z0l];simp only[Z13]at hN;by_cases hx:∀k∈x.kids,0<=k/\k < pre.length
  ·obtain⟨d1,p1,e1,h1⟩:=h.step zoy hx;rw[e1];have:=Qhb l (pre++[x]) d1 p1 h1 (Q3y.2 ⟨hk,hx⟩) zuy;simpa[Z01]using this
  ·right;have e1:Q24 (some (d,p)) (x,pre.length)=none:=by simp only[Q24,Qia (N:=N) x.kids d p hx,Z3l]
   rw[e1,Q7b];refine⟨fun h2=>hx ?_,rfl⟩;exact h2 pre.length x zsy
theorem Qdv(e:List Ex):(Q0z e/\∃d p,Q5b e=some (d,p)/\Run e e.length d p)∨(¬Q0z e/\Q5b e=none):=by
 have h0:Run [] e.length (List.replicate e.length 0) (List.replicate e.length 0):=by
  have z:∀i,(List.replicate e.length (0:Int)).getD i 0=0:=fun i=>by simp only[List.getD];rw[Z0x];split <;> rfl
  exact⟨by simp,by simp,fun i _=>by rw[z];rfl,fun i hi=>by simp at hi,fun i _=>z i⟩
 have:=Qhb e [] _ _ h0 (fun j x hj=>by simp at hj) zsy;simpa[Q5b]using this
structure IsTree (e:List Ex):Prop where
 ne:e≠[]
 k:Q0z e
 c:∀i,i < e.length->(cnt e i=1↔i+1 < e.length)
theorem Q2j(e:List Ex):Q1d e=0↔e.length<=4096/\IsTree e/\Q30 (grow e)<=400:=by
 unfold Q1d;by_cases h1:4096 < e.length
 ·rw[if_pos h1];exact⟨fun h=>absurd h zdy,fun h=>by omega⟩
 rw[if_neg h1];by_cases h2:e.length=0
 ·rw[if_pos h2];exact⟨fun h=>absurd h zdy,fun h=>absurd (Z15.1 h2) h.2.1.ne⟩
 rw[if_neg h2];rcases Qdv e with ⟨hk,d,p,h3,hr⟩|⟨hk,h3⟩
 ·rw[h3];have hd:d.getD (e.length - 1) 0=Q30 (grow e):=hr.dv _ zoy;have hodd:(List.range e.length).any (Q2g e.length p)=true↔¬∀i,i < e.length->(cnt e i=1↔i+1 < e.length):=by
   rw[Z00];constructor
   ·rintro⟨i,hi,hb⟩ h;have hi':i < e.length:=by simpa using hi
    have:=h i hi';have hc:=hr.pv i hi';simp only[Q2g,Qzh,beq_eq_false_iff_ne,ne_eq]at hb;apply hb;rw[Qzd,beq_iff_eq,decide_eq_true_iff,hc];omega
   ·intro h;simp only[Classical.not_forall]at h;obtain⟨i,hi,hne⟩:=h;refine⟨i,by simpa using hi,?_⟩;have hc:=hr.pv i hi;simp only[Q2g,Qzh,beq_eq_false_iff_ne,ne_eq];intro hb;rw[Qzd,beq_iff_eq,decide_eq_true_iff,hc]at hb;apply hne;omega
  simp only;by_cases h4:(List.range e.length).any (Q2g e.length p)=true
  ·rw[if_pos h4];exact⟨fun h=>absurd h zdy,fun h=>absurd h.2.1.c (hodd.1 h4)⟩
  ·rw[if_neg h4,hd];have hc:∀i,i < e.length->(cnt e i=1↔i+1 < e.length):=by apply Classical.byContradiction;intro hn;exact h4 (hodd.2 hn)
   by_cases h5:400 < Q30 (grow e)
   ·rw[if_pos h5];exact⟨fun h=>absurd h zdy,fun h=>by omega⟩
   ·rw[if_neg h5];exact⟨fun _=>⟨by omega,⟨fun h=>h2 (by simp[h]),hk,hc⟩,by omega⟩,fun _=>rfl⟩
 ·rw[h3];simp only;exact⟨fun h=>absurd h zdy,fun h=>absurd h.2.1.k hk⟩
def wsum (c:Nat->Int):Nat->List Int->Int
 |_,[]=>0
 |j,v::vs=>c j * v+wsum c (j+1) vs
theorem Qcg(c:Nat->Int):∀(vs us:List Int)(j:Nat),wsum c j (vs++us)=wsum c j vs+wsum c (j+vs.length) us
 |[],us,j=>by simp[wsum]
 |v::vs,us,j=>by simp only[Z03,wsum,Qcg c vs us,Z13];rw[show j+1+vs.length=j+(vs.length+1) by omega];omega
theorem Q7t{c c':Nat->Int}:∀(vs:List Int)(j:Nat),(∀i,j<=i->i < j+vs.length->c i=c' i)->wsum c j vs=wsum c' j vs
 |[],_,_=>rfl
 |v::vs,j,h=>by simp only[wsum];rw[h j zoy zsy,Q7t vs (j+1) (fun i h1 h2=>h i zoy zuy)]
theorem Qgx(c c':Nat->Int):∀(vs:List Int)(j:Nat),wsum (fun i=>c i - c' i) j vs=wsum c j vs - wsum c' j vs
 |[],_=>by simp[wsum]
 |v::vs,j=>by simp only[wsum,Qgx c c' vs,Int.sub_mul];omega
theorem Qgz(c c':Nat->Int):∀(vs:List Int)(j:Nat),wsum (fun i=>c i+c' i) j vs=wsum c j vs+wsum c' j vs
 |[],_=>by simp[wsum]
 |v::vs,j=>by simp only[wsum,Qgz c c' vs,Int.add_mul];omega
theorem Q6v{c:Nat->Int}:∀(vs:List Int)(j:Nat),(∀i,j<=i->i < j+vs.length->c i=0)->wsum c j vs=0
 |[],_,_=>rfl
 |v::vs,j,h=>by simp only[wsum];rw[h j zoy zsy,Q6v vs (j+1) (fun i h1 h2=>h i zoy zuy)];omega
theorem Qgy(k:Int):∀(vs:List Int)(j:Nat),(j:Int)<=k->k < j+vs.length->wsum (fun i=>if k=(i:Int)then 1 else 0) j vs=vs.getD (k.toNat - j) 0
 |[],j,h1,h2=>by simp at h2;omega
 |v::vs,j,h1,h2=>by
  simp only[wsum];by_cases e:k=j
  ·subst e;rw[Q6v vs (j+1) (fun i h3 h4=>if_neg zoy)];simp[List.getD]
  ·rw[if_neg e,Qgy k vs (j+1) zoy (by simp at h2;omega)];rw[show k.toNat - j=(k.toNat - (j+1))+1 by omega];simp[List.getD]
theorem Qbb(vs:List Int):∀ks:List Int,(∀k∈ks,0<=k/\k < vs.length)->wsum (fun i=>((ks.count (i:Int):Nat):Int)) 0 vs=(ks.map fun k=>vs.getD k.toNat 0).sum
 |[],_=>by simp;exact Q6v vs 0 (fun _ _ _=>by simp)
 |k::ks,h=>by
  have hk:=h k zsy;have e:wsum (fun i=>(((k::ks).count (i:Int):Nat):Int)) 0 vs=wsum (fun i=>(if k=(i:Int)then 1 else 0)+((ks.count (i:Int):Nat):Int)) 0 vs:=by
   refine Q7t vs 0 fun i _ _=>?_;rw[Z05];by_cases e:k=(i:Int)
   ·simp[e];omega
   ·simp[e]
  rw[e,Qgz,Qgy k vs 0 zoy zoy,Qbb vs ks (fun y hy=>h y (by simp[hy]))];simp
def labE (e:List Ex)(x:Ex):Lab:=⟨x.op,x.n,x.binds,x.kids.map (fun k=>((growL e).getD k.toNat default).op),x.alts⟩
def labs (e:List Ex):List Lab:=e.map (labE e)
theorem Qm5{x:Ex}(h:Q0z (e++[x])):labs (e++[x])=labs e++[labE e x]:=by
 obtain⟨h1,h2⟩:=Q3y.1 h;have same:∀y:Ex,(∀k∈y.kids,0<=k/\k < e.length)->labE (e++[x]) y=labE e y:=by intro y hy;simp only[labE,Lab.mk.injEq,true_and,and_true];refine Z1f fun k hk=>?_;have:=hy k hk;rw[Q5m zoy]
 simp only[labs,Z1e,Z1g,Z1j];rw[same x h2];congr 1;refine Z1f fun y hy=>same y fun k hk=>?_;obtain⟨j,hj⟩:=Z1v.1 hy;have:=h1 j y hj k hk;have hl:=(Z0v.1 hj).1;omega
theorem Qfp(g:Lab->Int)(e:List Ex)(x:Ex):sumT g (Q3k (growL e) x)=g (labE e x)+(x.kids.map fun k=>sumT g ((growL e).getD k.toNat default)).sum:=by simp only[Q3k,sumT,Qcj,labE,Z1i];rfl
theorem sum_pre(g:Lab->Int)(e:List Ex)(h:Q0z e):wsum (fun i=>1 - (cnt e i:Int)) 0 ((growL e).map (sumT g))=((labs e).map g).sum:=by
 revert h
 refine Q73 (P:=fun e=>Q0z e->wsum (fun i=>1 - (cnt e i:Int)) 0 ((growL e).map (sumT g))=((labs e).map g).sum) (fun _=>rfl) (fun e x ih h=>?_) e;obtain⟨h1,h2⟩:=Q3y.1 h;have ih:=ih h1;have hlen:((growL e).map (sumT g)).length=e.length:=by simp[Q1v]
 have hz:cnt (e++[x]) e.length=0:=by
  have:∀(l:List Ex) (n:Nat),(∀y∈l,∀k∈y.kids,k < (n:Int))->cnt l n=0:=by
   intro l
   induction l with
   |nil=>intro n _;rfl
   |cons y l ih2=>
    intro n hl;simp only[cnt];rw[ih2 n (fun z hz=>hl z (by simp[hz])),Z2t,Z06];intro hm;have:=hl y zsy _ hm;omega
  refine this _ _ fun y hy k hk=>?_;obtain⟨j,hj⟩:=Z1v.1 hy;have:=h j y hj k hk;have hl:=(Z0v.1 hj).1;simp at hl;omega
 rw[Q2p,Z1e,Qcg,hlen,Qm5 h,Z1e,List.sum_append,←ih];simp only[Z1g,Z1j,wsum,Z3a,hz,Z2f,List.sum_nil,Qfp];have e1:wsum (fun i=>1 - (cnt (e++[x]) i:Int)) 0 ((growL e).map (sumT g))=wsum (fun i=>(1 - (cnt e i:Int)) - ((x.kids.count (i:Int):Nat):Int)) 0 ((growL e).map (sumT g)):=by refine Q7t _ 0 fun i _ _=>?_;rw[Qgn];simp[cnt];omega
 rw[e1,Qgx,Qbb _ _ (fun k hk=>by rw[hlen];exact h2 k hk)];have e2:(x.kids.map fun k=>((growL e).map (sumT g)).getD k.toNat 0)=x.kids.map fun k=>sumT g ((growL e).getD k.toNat default):=by
  refine Z1f fun k hk=>?_;have:=h2 k hk;have hl:k.toNat < (growL e).length:=by rw[Q1v];omega
  simp[List.getD,Z0t hl]
 rw[e2];omega
theorem Qpz(h:Q0z e)(hn:e.length<=n+1):cnt e n=0:=by
 have:∀(l:List Ex),(∀y∈l,∀k∈y.kids,k < (n:Int))->cnt l n=0:=by
  intro l
  induction l with
  |nil=>intro _;rfl
  |cons y l ih2=>
   intro hl;simp only[cnt];rw[ih2 (fun z hz=>hl z (by simp[hz])),Z2t,Z06];intro hm;have:=hl y zsy _ hm;omega
 refine this _ fun y hy k hk=>?_;obtain⟨j,hj⟩:=Z1v.1 hy;have:=h j y hj k hk;have hl:=(Z0v.1 hj).1;omega
theorem Q99(g:Lab->Int)(h:IsTree e):((labs e).map g).sum=sumT g (grow e):=by
 rw[←sum_pre g e h.k];obtain⟨pre,x,rfl⟩:∃pre x,e=pre++[x]:=⟨e.dropLast,e.getLast h.ne,(List.dropLast_concat_getLast h.ne).symm⟩;rw[Q2p,Z1e,Qcg];rw[Q6v _ 0 (fun i _ hi=>?_),Qmu]
 ·simp only[Z1g,Z1j,wsum,Z16,Q1v,Z3a];rw[Qpz h.k zsy];omega
 ·have hi:i < pre.length:=by simpa[Q1v]using hi
  have:=(h.c i zuy).2 zuy;rw[this];rfl
structure OkT (out:List Ex)(t:Tr):Prop where
 lt:out.length < (listT out t).length
 k:Q0z (listT out t)
 g:∃r,growL (listT out t)=growL out++r++[t]
 c:∀i,cnt (listT out t) i=cnt out i+if out.length<=i/\i+1 < (listT out t).length then 1 else 0
structure OkTs (out:List Ex)(ts:List Tr):Prop where
 le:out.length<=(Q03 out ts).1.length
 k:Q0z (Q03 out ts).1
 g:∃r,growL (Q03 out ts).1=growL out++r
 ix:∀k∈(Q03 out ts).2,(out.length:Int)<=k/\k < (Q03 out ts).1.length
 m:(Q03 out ts).2.map (fun k=>(growL (Q03 out ts).1).getD k.toNat default)=ts
 c:∀i,cnt (Q03 out ts).1 i+(Q03 out ts).2.count (i:Int)=cnt out i+if out.length<=i/\i < (Q03 out ts).1.length then 1 else 0
mutual
theorem Qd2:∀(t:Tr)(out:List Ex),Q0z out->OkT out t
 |.mk o n b ks a,out,h=>by
  have H:=Qem ks out h;have e:listT out (.mk o n b ks a)=(Q03 out ks).1++[⟨o,n,b,(Q03 out ks).2,a⟩]:=by simp only[listT]
  refine⟨?_,?_,?_,fun i=>?_⟩
  ·rw[e];have:=H.le;simp;omega
  ·rw[e,Q3y];refine⟨H.k,fun k hk=>?_⟩;have:=H.ix k hk;exact⟨by omega,this.2⟩
  ·obtain⟨r,hr⟩:=H.g;refine⟨r,?_⟩;rw[e,Q2p];have:Q3k (growL (Q03 out ks).1) ⟨o,n,b,(Q03 out ks).2,a⟩=.mk o n b ks a:=by simp only[Q3k,Tr.mk.injEq,true_and,and_true];exact H.m
   rw[this,hr]
  ·rw[e,Qgn];have:=H.c i;simp only[cnt,Z2t,Z12,Z1b];rw[this];congr 1;by_cases h1:out.length<=i/\i < (Q03 out ks).1.length
   ·rw[if_pos h1,if_pos zoy]
   ·rw[if_neg h1,if_neg zoy]
theorem Qem:∀(ts:List Tr)(out:List Ex),Q0z out->OkTs out ts
 |[],out,h=>⟨by simp[Q03],by simpa[Q03]using h,⟨[],by simp[Q03]⟩,by simp[Q03],by simp[Q03],fun i=>by
   have e1:(Q03 out []).1=out:=by simp only[Q03]
   have e2:(Q03 out []).2=[]:=by simp only[Q03]
   rw[e1,e2,if_neg zoy];rfl⟩
 |t::ts,out,h=>by
  have H1:=Qd2 t out h;have H2:=Qem ts (listT out t) H1.k;have e1:(Q03 out (t::ts)).1=(Q03 (listT out t) ts).1:=by simp only[Q03]
  have e2:(Q03 out (t::ts)).2=(((listT out t).length:Int) - 1)::(Q03 (listT out t) ts).2:=by simp only[Q03]
  have l1:=H1.lt;have l2:=H2.le;obtain⟨r1,g1⟩:=H1.g;obtain⟨r2,g2⟩:=H2.g;refine⟨by rw[e1];omega,by rw[e1];exact H2.k,⟨r1++[t]++r2,?_⟩,?_,?_,fun i=>?_⟩
  ·rw[e1,g2,g1];simp
  ·intro k hk;rw[e2]at hk;rw[e1];rcases Z1p.1 hk with rfl|hk
   ·omega
   ·have:=H2.ix k hk;omega
  ·rw[e1,e2,Z1g,H2.m];congr 1;have hl:(growL (listT out t)).length=(listT out t).length:=Q1v _;have hl2:(growL out++r1).length+1=(listT out t).length:=by rw[←hl,g1];simp;omega
   rw[g2,Q9i (by rw[hl];omega),g1];have:((((listT out t).length:Int) - 1)).toNat=(growL out++r1).length:=by omega
   rw[this];simp[List.getD]
  ·rw[e1,e2,Z05];have c2:=H2.c i;have c1:=H1.c i;have hh:(((((listT out t).length:Int) - 1)==(i:Int))=true)↔i+1=(listT out t).length:=by rw[beq_iff_eq];omega
   by_cases h1:i+1=(listT out t).length
   ·rw[if_pos (hh.2 h1)];rw[if_neg zoy]at c2;rw[if_neg zoy]at c1;rw[if_pos zoy];omega
   ·rw[if_neg (fun h=>h1 (hh.1 h))];by_cases h2:out.length<=i/\i+1 < (listT out t).length
    ·rw[if_pos h2]at c1;rw[if_neg zoy]at c2;rw[if_pos zoy];omega
    ·rw[if_neg h2]at c1;by_cases h3:(listT out t).length<=i/\i < (Q03 (listT out t) ts).1.length
     ·rw[if_pos h3]at c2;rw[if_pos zoy];omega
     ·rw[if_neg h3]at c2;rw[if_neg zoy];omega
end
theorem Qbq:Q0z []:=fun j x hj=>by simp at hj
theorem Q2y(t:Tr):grow (listT [] t)=t:=by
 have H:=Qd2 t [] Qbq;obtain⟨r,hr⟩:=H.g;have hl:(growL (listT [] t)).length=(listT [] t).length:=Q1v _;unfold grow;rw[hr]at hl ⊢;have:(listT [] t).length - 1=(growL []++r).length:=by simp at hl ⊢;omega
 rw[this];simp[List.getD]
theorem Q40(t:Tr):IsTree (listT [] t):=by
 have H:=Qd2 t [] Qbq;refine⟨fun h=>?_,H.k,fun i hi=>?_⟩
 ·have:=H.lt;rw[h]at this;simp at this
 ·rw[H.c i];simp only[cnt,Z17,Z3b,true_and,Z3a];split <;> omega
theorem Qko(ls:List Lab)(l0:Lab):(ls.map fun l=>if l=l0 then (1:Int)else 0).sum=ls.count l0:=by
 induction ls with
 |nil=>rfl
 |cons l ls ih=>
  simp only[Z1g,Z2f,ih,Z05];by_cases e:l=l0
  ·simp[e];omega
  ·simp[e]
theorem Qeo{f:List Ex}(he:IsTree e)(hf:IsTree f)(h:grow e=grow f):(labs e).Perm (labs f):=by rw[List.perm_iff_count];intro l0;have h1:=Q99 (fun l=>if l=l0 then (1:Int)else 0) he;have h2:=Q99 (fun l=>if l=l0 then (1:Int)else 0) hf;rw[Qko]at h1 h2;rw[h]at h1;omega
theorem Q9f(e:List Ex):(labs e).length=e.length:=by simp[labs]
theorem Qg0(e:List Ex):∀i,i < e.length->((growL e).getD i default).op=(e.getD i ⟨0,0,[],[],[]⟩).op:=by
 refine Q73 (P:=fun e=>∀i,i < e.length->((growL e).getD i default).op=(e.getD i ⟨0,0,[],[],[]⟩).op) (fun i hi=>by simp at hi) (fun e x ih i hi=>?_) e;by_cases h:i < e.length
 ·rw[Q5m h,ih i h,Q9i h]
 ·have:i=e.length:=by simp at hi;omega
  subst this;rw[Q9h e [] x];simp[Q3k,List.getD]
theorem Ql1{o n:Int}(h:kx.length=ky.length):shape ⟨o,n,b,kx,a⟩=shape ⟨o,n,b,ky,a⟩:=by unfold shape wants Q7s Q5a;simp only[h]
theorem Qj7{o n:Int}(h:kx.length=ky.length):ranges ⟨o,n,b,kx,a⟩=ranges ⟨o,n,b,ky,a⟩:=by unfold ranges fields;simp only[h]
theorem Qj5{x:Ex}(h:shape x=true)(h5:x.op=5):x.kids.length=x.binds.length+1:=by unfold shape wants at h;simp[h5]at h;omega
theorem Qel{f:List Ex}{x y:Ex}(hx:∀k∈x.kids,0<=k/\k < (e.length:Int))(hy:∀k∈y.kids,0<=k/\k < (f.length:Int))(h:labE e x=labE f y):Q0i flat e x=Q0i flat f y:=by
 obtain⟨o,n,b,kx,a⟩:=x;obtain⟨o',n',b',ky,a'⟩:=y;simp only[labE,Lab.mk.injEq]at h;obtain⟨rfl,rfl,rfl,hk,rfl⟩:=h;have hl:kx.length=ky.length:=by have:=congrArg List.length hk;simpa using this
 unfold Q0i Q1p;rw[Ql1 hl,Qj7 hl];cases hs:shape ⟨o,n,b,ky,a⟩ with
 |false=>simp
 |true=>
  have hb:(List.range b.length).any (Q1l e ⟨o,n,b,kx,a⟩)=(List.range b.length).any (Q1l f ⟨o,n,b,ky,a⟩):=by
   rw[Qzd,Z00,Z00];have key:∀i,i < b.length->Q1l e ⟨o,n,b,kx,a⟩ i=Q1l f ⟨o,n,b,ky,a⟩ i:=by
    intro i hi;unfold Q1l;by_cases h5:o=5
    ·have hr:=Qj5 hs h5;simp only at hr;obtain⟨k,h1⟩:∃k,kx[i]?=some k:=⟨kx[i]'(by omega),Z0t _⟩;obtain⟨m,h2⟩:∃k,ky[i]?=some k:=⟨ky[i]'(by omega),Z0t _⟩;have k1:=hx k (Z1y h1);have k2:=hy m (Z1y h2);have h3:=congrArg (fun l=>l[i]?) hk;simp only[Z0w,h1,h2,Z3m,Z3o]at h3;rw[Qg0 e _ zoy,Qg0 f _ zoy]at h3;have e1:kx.getD i 0=k:=by rw[Z0o,h1];rfl
     have e2:ky.getD i 0=m:=by rw[Z0o,h2];rfl
     simp only[e1,e2,h3]
    ·have:(o==5)=false:=by simpa using h5
     simp only[this,Bool.false_and]
   constructor
   ·rintro⟨i,hi,hb⟩;exact⟨i,hi,by rw[←key i (by simpa using hi)];exact hb⟩
   ·rintro⟨i,hi,hb⟩;exact⟨i,hi,by rw[key i (by simpa using hi)];exact hb⟩
  simp only[hb]
theorem Q2c{α:Type}(f:α->Int):∀l:List α,Q1r f l=0↔∀x∈l,f x=0
 |[]=>by simp[Q1r]
 |a::l=>by
  simp only[Q1r,Z1p,forall_eq_or_imp];by_cases h:f a=0
  ·simp[h,Q2c f l]
  ·simp[h]
theorem Q1o:∀l:List Int,Q4b l=false↔l.Nodup
 |[]=>by simp[Q4b]
 |n::l=>by simp[Q4b,Z27,Q1o l]
theorem Qad(h:Q0z e){x:Ex}(hx:x∈e):∀k∈x.kids,0<=k/\k < (e.length:Int):=by intro k hk;obtain⟨j,hj⟩:=Z1v.1 hx;have:=h j x hj k hk;have hl:=(Z0v.1 hj).1;omega
theorem Q5w(e:List Ex):Q08 e=(labs e).flatMap fun l=>Q0s l.op l.binds l.alts:=by unfold Q08 labs;rw[List.flatMap_map];rfl
theorem Qno{f:List Ex}(hf:IsTree f)(h:grow e=grow f)(hb:body e params flat=0):body f params flat=0:=by
 unfold body at hb ⊢;by_cases h1:Q1d e=0
 ·rw[if_neg (by simpa using h1)]at hb;obtain⟨t1,t2,t3⟩:=(Q2j e).1 h1;have hp:=Qeo t2 hf h;have hl:e.length=f.length:=by rw[←Q9f e,←Q9f f];exact hp.length_eq
  rw[if_neg (by rw[Classical.not_not];exact (Q2j f).2 ⟨by omega,hf,by rw[←h];exact t3⟩)];by_cases h2:Q1r (Q0i flat e) e=0
  ·rw[if_neg (by simpa using h2)]at hb;have h2f:Q1r (Q0i flat f) f=0:=by rw[Q2c]at h2 ⊢;intro y hy;have hm:labE f y∈labs e:=hp.mem_iff.2 (Z1x hy);obtain⟨x,hx,hxy⟩:=Z1w.1 hm;rw[←Qel (Qad t2.k hx) (Qad hf.k hy) hxy];exact h2 x hx
   rw[if_neg (by simpa using h2f)];by_cases h3:Q4b (params++Q08 e)=true
   ·rw[if_pos h3]at hb;exact absurd hb zdy
   ·rw[if_neg h3]at hb;have hd:(params++Q08 e).Perm (params++Q08 f):=by rw[Q5w,Q5w];exact List.Perm.append_left _ (List.Perm.flatMap_right _ hp)
    have h3f:¬Q4b (params++Q08 f)=true:=by intro h4;have h5:=(Q1o _).1 (by simpa using h3);have h6:=(Q1o _).2 (hd.nodup_iff.1 h5);rw[h6]at h4;cases h4
    rw[if_neg h3f,←h];exact hb
  ·rw[if_pos h2]at hb;exact absurd hb h2
 ·rw[if_pos h1]at hb;exact absurd hb h1
theorem Q1t(hb:body e params flat=0):IsTree e:=by
 unfold body at hb;by_cases h1:Q1d e=0
 ·exact ((Q2j e).1 h1).2.1
 ·rw[if_pos h1]at hb;exact absurd hb h1
theorem Qk7(h:check e=0):check (listT [] (grow e))=0:=Qno (Q40 _) (Q2y _).symm h
abbrev Nm:=Int->Option Int
def setN (m:Nm)(k v:Int):Nm:=fun j=>if k=j then some v else m j
def putsN (m:Nm):List Int->List Int->Nm
 |x::xs,y::ys=>putsN (setN m x y) xs ys
 |_,_=>m
def Qiw:List Alt->List Alt->Bool
 |a::l,b::r=>(a.tag==b.tag&&a.binds.length==b.binds.length)&&Qiw l r
 |_,_=>true
def unlike (o:Int)(nk nb na:Nat)(t:Tr):Bool:=!(o==t.op&&nk==t.kids.length&&nb==t.binds.length&&na==t.alts.length)
def sameVar (m:Nm)(n n':Int):Bool:=match m n with|some v=>v==n'|none=>n==n'
mutual
def sameT:Tr->Tr->Nm->Bool×Nm
 |.mk o n b k a,t,m=>
  if unlike o k.length b.length a.length t=true then (false,m) else
  if o=0 then (sameVar m n t.n,m) else
  if (!(n==t.n))||(o==9&&!(b==t.binds))then (false,m) else
  if Qiw a t.alts=false then (false,m) else
  sameTs k t.kids (putsN m (Q0s o b a) (Q0s t.op t.binds t.alts))
def sameTs:List Tr->List Tr->Nm->Bool×Nm
 |[],_,m=>(true,m)
 |a::l,r,m=>match r with
  |[]=>(true,m)
  |b::r=>if (sameT a b m).1=true then sameTs l r (sameT a b m).2 else (false,(sameT a b m).2)
end
def Qon (a b:Tr):Bool:=(sameT a b fun _=>none).1
def same (a b:List Ex):Bool:=(check a==0&&check b==0)&&Qon (grow a) (grow b)
def order (e:List Ex):List Ex×Int:=if check e≠0 then ([],check e)else (listT [] (grow e),0)
end Go.CoreX
namespace Go.Abs
theorem Qtz{l:List Oper}(d:Nat)(h:o.dst=some d)(k:AOps E ops (o::l) K fr σ):AOps E ops (o::l) K fr σ:=k
class StpC (g:Prop) (h:outParam Prop):Prop where
 go:h->g
theorem zst{g h:Prop} [i:StpC g h] (x:h):g:=i.go x
section
variable {E:Env}{Fin:Fr->St->Prop}{k:List AItem}{fr:Fr}{σ:St}{c x y:Code}{id:Nat}{J:Fr->St->Prop}{ops:Array Oper}{K:Cont}{l:List Oper}
instance:StpC (AOps E ops [] K fr σ) (K .normal fr σ):=⟨o1⟩
instance:StpC (ACode E (.seq x y) (Q05 E Fin k) fr σ) (ACode E x (Q05 E Fin (.code y::k)) fr σ):=⟨o2⟩
instance:StpC (ACode E (.region id l.toArray false) K fr σ) (AOps E l.toArray l K fr σ):=⟨o3⟩
instance:StpC (Q05 E Fin (.code c::k) .normal fr σ) (ACode E c (Q05 E Fin k) fr σ):=⟨o4⟩
instance:StpC (ACode E .ret (Q05 E Fin k) fr σ) (Q05 E Fin k .ret fr σ):=⟨o5⟩
instance:StpC (Q05 E Fin [] .ret fr σ) (Fin fr σ):=⟨o6⟩
instance:StpC (Q05 E Fin [] .normal fr σ) (Fin fr σ):=⟨o7⟩
instance:StpC (ACode E .skip (Q05 E Fin k) fr σ) (Q05 E Fin k .normal fr σ):=⟨o8⟩
instance:StpC (ACode E (.block id c) (Q05 E Fin k) fr σ) (ACode E c (Q05 E Fin (.blk id::k)) fr σ):=⟨o9⟩
instance:StpC (Q05 E Fin (.blk id::k) .normal fr σ) (Q05 E Fin k .normal fr σ):=⟨oa⟩
instance:StpC (Q05 E Fin (.code c::k) .ret fr σ) (Q05 E Fin k .ret fr σ):=⟨ob⟩
instance:StpC (Q05 E Fin (.blk id::k) .ret fr σ) (Q05 E Fin k .ret fr σ):=⟨oc⟩
instance:StpC (Q05 E Fin (.inv J::k) .ret fr σ) (Q05 E Fin k .ret fr σ):=⟨od⟩
instance {J:List PanicEntry->St->Prop}:StpC (Q05 E Fin (.pan J::k) .normal fr σ) (Q05 E Fin k .normal fr σ):=⟨fun h=>h⟩
instance {J:List PanicEntry->St->Prop}:StpC (Q05 E Fin (.pan J::k) .ret fr σ) (Q05 E Fin k .ret fr σ):=⟨fun h=>h⟩
instance {J:List PanicEntry->St->Prop}:StpC (Q05 E Fin (.pan J::k) (.exit id) fr σ) (Q05 E Fin k (.exit id) fr σ):=⟨fun h=>h⟩
instance:StpC (ACode E (.exit id) (Q05 E Fin k) fr σ) (Q05 E Fin k (.exit id) fr σ):=⟨oe⟩
instance:StpC (Q05 E Fin (.code c::k) (.exit id) fr σ) (Q05 E Fin k (.exit id) fr σ):=⟨og⟩
instance:StpC (Q05 E Fin (.blk id::k) (.exit id) fr σ) (Q05 E Fin k .normal fr σ):=⟨oh⟩
instance:StpC (Q05 E Fin (.inv J::k) (.exit id) fr σ) (Q05 E Fin k (.exit id) fr σ):=⟨oi⟩
end
end Go.Abs
namespace Go.Proofs.YtlmokgooijbcdaaGreatDoor
open Go Go.Abs
section
variable {E:Env}{ops:Array Oper}{rest:List Oper}{o:Oper}{K:Cont}{fr fr':Fr}{σ σ':St}{d:Nat}{t yt:TypeId}{x y:Operand}{a b:Int}{p q:Bool}{tys:Array TypeId}
theorem zau(h:AOps E ops rest K fr' σ')(hT:TabOk E.P E.T:=by exact tabOk)(h1:aAuto E ops o fr σ=some (fr',σ'):=by exact rfl):AOps E ops (o::rest) K fr σ:=AOps.auto hT h1 h
theorem zad(h:AOps E ops rest K ((d,.one (.lit (.int .i64 (a+b))))::fr) σ)(hgd:o.guard=none:=by exact rfl)(Qvh:o.dst=some d:=by exact rfl)(hd:Nat.ble (d+1) E.N=true:=by exact rfl)(ho:o.op=.binOp .add t x y yt:=by exact rfl)
  (hx:aEval E.Γ fr x=some (.one (.lit (.int .i64 a))):=by exact rfl) (hy:aEval E.Γ fr y=some (.one (.lit (.int .i64 b))):=by exact rfl) (h0:-9223372036854775808<=a+b:=by first|omega|(simp;omega)) (h1:a+b<=9223372036854775807:=by first|omega|(simp;omega)):AOps E ops (o::rest) K fr σ:=
 Qr9 hgd Qvh hd (Qr0 ho hx hy (.inl ⟨rfl,rfl⟩) (Q2m h0 h1)) h
theorem zsu(h:AOps E ops rest K ((d,.one (.lit (.int .i64 (a - b))))::fr) σ)(hgd:o.guard=none:=by exact rfl)(Qvh:o.dst=some d:=by exact rfl)(hd:Nat.ble (d+1) E.N=true:=by exact rfl)(ho:o.op=.binOp .sub t x y yt:=by exact rfl)
  (hx:aEval E.Γ fr x=some (.one (.lit (.int .i64 a))):=by exact rfl) (hy:aEval E.Γ fr y=some (.one (.lit (.int .i64 b))):=by exact rfl) (h0:-9223372036854775808<=a - b:=by first|omega|(simp;omega)) (h1:a - b<=9223372036854775807:=by first|omega|(simp;omega)):AOps E ops (o::rest) K fr σ:=
 Qr9 hgd Qvh hd (Qr0 ho hx hy (.inr (.inl ⟨rfl,rfl⟩)) (Q2m h0 h1)) h
theorem zne(h:AOps E ops rest K ((d,.one (.lit (.bool (!(p==q)))))::fr) σ)(hgd:o.guard=none:=by exact rfl)(Qvh:o.dst=some d:=by exact rfl)(hd:Nat.ble (d+1) E.N=true:=by exact rfl)(ho:o.op=.binOp .neq t x y yt:=by exact rfl)(ht:E.P.underlying t=some .bool:=by exact Tryz.underlying4)
  (hx:aEval E.Γ fr x=some (.one (.lit (.bool p))):=by exact rfl) (hy:aEval E.Γ fr y=some (.one (.lit (.bool q))):=by exact rfl):AOps E ops (o::rest) K fr σ:=Qr9 hgd Qvh hd (Qsj ht ho hx hy) h
theorem zeq(h:AOps E ops rest K ((d,.one (.lit (.bool (p==q))))::fr) σ)(hgd:o.guard=none:=by exact rfl)(Qvh:o.dst=some d:=by exact rfl)(hd:Nat.ble (d+1) E.N=true:=by exact rfl)(ho:o.op=.binOp .eql t x y yt:=by exact rfl)(ht:E.P.underlying t=some .bool:=by exact Tryz.underlying4)
  (hx:aEval E.Γ fr x=some (.one (.lit (.bool p))):=by exact rfl) (hy:aEval E.Γ fr y=some (.one (.lit (.bool q))):=by exact rfl):AOps E ops (o::rest) K fr σ:=Qr9 hgd Qvh hd (Qsi ht ho hx hy) h
theorem zmx(h:AOps E ops rest K ((d,.one (.lit (.int .i64 (if b > a then b else a))))::fr) σ)(hgd:o.guard=none:=by exact rfl)(Qvh:o.dst=some d:=by exact rfl)(hd:Nat.ble (d+1) E.N=true:=by exact rfl)(ho:o.op=.call { callee:=.builtin .max,args:=#[x,y],argTypes:=tys }:=by exact rfl)
  (hx:aEval E.Γ fr x=some (.one (.lit (.int .i64 a))):=by exact rfl) (hy:aEval E.Γ fr y=some (.one (.lit (.int .i64 b))):=by exact rfl):AOps E ops (o::rest) K fr σ:=Qr9 hgd Qvh hd (AStep.max2 (t:=3) (ty:=3) ho hx hy) h
theorem zmn(h:AOps E ops rest K ((d,.one (.lit (.int .i64 (if b < a then b else a))))::fr) σ)(hgd:o.guard=none:=by exact rfl)(Qvh:o.dst=some d:=by exact rfl)(hd:Nat.ble (d+1) E.N=true:=by exact rfl)(ho:o.op=.call { callee:=.builtin .min,args:=#[x,y],argTypes:=tys }:=by exact rfl)
  (hx:aEval E.Γ fr x=some (.one (.lit (.int .i64 a))):=by exact rfl) (hy:aEval E.Γ fr y=some (.one (.lit (.int .i64 b))):=by exact rfl):AOps E ops (o::rest) K fr σ:=Qr9 hgd Qvh hd (AStep.min2 (t:=3) (ty:=3) ho hx hy) h
theorem zow{j:Abs.Id}(ho:o.op=.load t x)(hx:aEval E.Γ fr x=some (.one (.ptr j off)))(hg:σ.get j=some (.cells cs))(h:AOps E ops rest K ((d,.one c)::fr) σ)(hgd:o.guard=none:=by exact rfl)(Qvh:o.dst=some d:=by exact rfl)(hd:Nat.ble (d+1) E.N=true:=by exact rfl)(hT:TabOk E.P E.T:=by exact tabOk)
  (ht:Tab.get t E.T=some ti:=by exact rfl) (ha:ti.agg=false:=by exact rfl) (hs:Nat.beq ti.size 1=true:=by exact rfl) (hc:cs[off]?=some c:=by exact rfl):AOps E ops (o::rest) K fr σ:=Qr9 hgd Qvh hd (Qsc hT ho ht ha hs hx hg hc) h
theorem zix{k:IntKind}{n:Int}{s:Nat}{e:List AC}(h:AOps E ops rest K ((d,.one (.box e))::fr) σ)(hgd:o.guard=none:=by exact rfl)(Qvh:o.dst=some d:=by exact rfl)(hd:Nat.ble (d+1) E.N=true:=by exact rfl)(ho:o.op=.indexAddr t x y:=by exact rfl)(hT:TabOk E.P E.T:=by exact tabOk)
  (ht:Tab.get t E.T=some ti:=by exact rfl) (hk:Nat.beq ti.kind 2=true:=by exact rfl) (hj:Tab.get ti.elem E.T=some tj:=by exact rfl) (hx:aEval E.Γ fr x=some (.one (.sl s es)):=by exact rfl) (hs:Nat.beq tj.size s=true:=by exact rfl) (hy:aEval E.Γ fr y=some (.one (.lit (.int k n))):=by exact rfl) (h0:0<=n:=by decide) (he:es[n.toNat]?=some e:=by exact rfl):AOps E ops (o::rest) K fr σ:=
 Qr9 hgd Qvh hd (Qz2 hT ho ht hk hj hs hx (.inl rfl) hy h0 he) h
theorem zca{f:Operand}{args:Array Operand}{g:Nat}{first:List AC}{ws:List FV}{r:FV}(hΓ:GI E.Γ)(hc:APure E.P E.Γ g ws r)(hou:OuOk σ.ou)(h:AOps E ops rest K ((d,r)::fr) σ)(hgd:o.guard=none:=by exact rfl)(Qvh:o.dst=some d:=by exact rfl)(hd:Nat.ble (d+1) E.N=true:=by exact rfl)
  (ho:o.op=.call { callee:=.value f,args:=args,argTypes:=tys }:=by exact rfl) (hf:aEval E.Γ fr f=some (.one (.fn (.func g) first caps)):=by exact rfl) (hargs:Q1g E.Γ fr args.toList=some vs:=by exact rfl) (has:first.map .one++vs++caps.map .one=ws:=by exact rfl) (Qvd:idsF isO ws:=by simp):AOps E ops (o::rest) K fr σ:=
 Qrl hΓ hc hgd Qvh hd ho hf hargs has hou Qvd h
end
section
variable {ρ:Nat->Nat}{fr r:Fr}{k n s:Nat}{x v:FV}{es:List (List AC)}{oc:Option Nat}{lo lr:List (Nat×AObj)}{o p:AObj}{k':Nat}
theorem zfc(hr:FrSub ρ fr r)(h:Fr.get k fr=some v:=by exact rfl)(he:v=x.ren ρ:=by exact rfl):FrSub ρ fr ((k,x)::r):=Qzo h (.ofEq he) hr
theorem zfo(hr:FrSub ρ fr r)(h:Fr.get n fr=some (.one (oaC k' s es oc)):=by exact rfl)(hk:k'=ρ k:=by exact rfl):FrSub ρ fr ((n,.one (oaC k s es oc))::r):=Qt2 h hk hr
theorem zfp(hr:FrSub ρ fr r)(h:Fr.get k fr=some v:=by exact rfl)(he:v=x:=by exact rfl)(hp:x.ids isO:=by simp):FrSub ρ fr ((k,x)::r):=Qzp h (.ofEq he) hp hr
theorem zlc(hr:LoSub ρ n lo lr)(h:lookL (ρ k) lo=some p:=by exact rfl)(hk:Nat.blt k n=true:=by exact rfl)(he:p=o.ren ρ:=by first|rfl|(refine (Qyr _ _ ?_).symm;simp;done)|exact (Qla _ _ _ _ fun _=>Qg9 (by simp;done)).symm|(simp[AObj.ren,renL,AC.ren];done)|(simp[AObj.ren,renL,AC.ren];rfl))(hi:o.ids (inL n):=by first|(simp;done)|exact Qmh zsy):LoSub ρ n lo ((k,o)::lr):=Z2m h he hk hi hr
theorem zld(he:p=o.ren ρ)(hr:LoSub ρ n lo lr)(h:lookL (ρ k) lo=some p:=by exact rfl)(hk:Nat.blt k n=true:=by exact rfl)(hi:o.ids (inL n):=by first|(simp;done)|exact Qmh zsy):LoSub ρ n lo ((k,o)::lr):=Z2m h he hk hi hr
end
section
variable {E:Env}{o:Oper}{fr:Fr}{σ σ':St}{ρ:Nat->Nat}{r:Fr}{n:Nat}{lo lr:List (Nat×AObj)}{ops:Array Oper}{v:FV}
theorem zFW(h:FrSub ρ fr r:=by (repeat' first|exact Qzq|refine zfc ?_|refine zfo ?_|refine zfp ?_ (hp:=by first|assumption|(simp;done)))):FrSub ρ fr r:=h
theorem zFS(h:FrSub ρ fr r:=by (repeat' first|exact Qzq|refine zfc ?_|refine zfo ?_|refine zfp ?_)):FrSub ρ fr r:=h
theorem zLO(h:LoSub ρ n lo lr:=by (repeat' first|exact Z2n|refine zlc ?_|refine zld ?_ ?_|rfl)):LoSub ρ n lo lr:=h
theorem zI(h1:-9223372036854775808<=k:=by omega)(h2:k<=9223372036854775807:=by omega):Q4w .i64 k:=Q2m h1 h2
theorem zHP(h:AStep E o fr σ v σ')(hg:o.guard=none:=by exact rfl):HStep E ops o fr σ σ' v:=Qzs hg h
theorem zS{x:FV}{d:Nat}(hs:AStep E o fr σ x σ')(h:AOps E ops rest K ((d,x)::fr) σ')(hgd:o.guard=none:=by exact rfl)(Qvh:o.dst=some d:=by exact rfl)(hd:Nat.ble (d+1) E.N=true:=by exact rfl):AOps E ops (o::rest) K fr σ:=Qr9 hgd Qvh hd hs h
theorem zLD{t:TypeId}{j:Abs.Id}(ho:o.op=.load t x)(hx:aEval E.Γ fr x=some (.one (.ptr j off)))(hg:σ.get j=some (.cells cs))(hc:cs[off]?=some c)(hT:TabOk E.P E.T:=by exact tabOk)(ht:Tab.get t E.T=some ti:=by exact rfl)(ha:ti.agg=false:=by exact rfl)(hs:Nat.beq ti.size 1=true:=by exact rfl):AStep E o fr σ (.one c) σ:=Qsc hT ho ht ha hs hx hg hc
theorem zIA{t:TypeId}{i:Operand}{k:IntKind}{s:Nat}{e:List AC}(ho:o.op=.indexAddr t x i)(hx:aEval E.Γ fr x=some (.one (.sl s es)))(hi':aEval E.Γ fr i=some (.one (.lit (.int k m))))(h0:0<=m)(he:es[m.toNat]?=some e)(hT:TabOk E.P E.T:=by exact tabOk)(ht:Tab.get t E.T=some ti:=by exact rfl)(hk:Nat.beq ti.kind 2=true:=by exact rfl)(hj:Tab.get ti.elem E.T=some tj:=by exact rfl)(hs:Nat.beq tj.size s=true:=by exact rfl):AStep E o fr σ (.one (.box e)) σ:=Qz2 hT ho ht hk hj hs hx (.inl rfl) hi' h0 he
end
structure ZW (q:Prop):Prop where
 out:q
theorem zA{p:Prop}(h:q)(f:ZW q->p:=by
  intro h;repeat first|((with_reducible refine oj ?_);refine zau ?_)|(with_reducible refine zst ?_)|((with_reducible refine Q07 ?_ ?_);rfl)|(with_reducible refine ok ?_;first|refine Qyn rfl ?_|refine Qym rfl ?_)
  exact h.out):p:=f ⟨h⟩
theorem zM{p:Prop}(h:q)(f:ZW q->p:=by
  intro h;repeat first|((with_reducible refine oj ?_);refine zau ?_)|(with_reducible refine zst ?_)|((with_reducible refine Q07 ?_ ?_);rfl)|(with_reducible refine ok ?_;first|refine Qyn rfl ?_|refine Qym rfl ?_)|((with_reducible refine oj ?_);first|refine zad ?_|refine zsu ?_|refine zne ?_|refine zeq ?_|refine zmx ?_|refine zmn ?_|refine Qs6 rfl rfl rfl ?_)
  exact h.out):p:=f ⟨h⟩
theorem zN{p:Prop}(h:q)(f:ZW q->p:=by
  intro h;first|((with_reducible refine oj ?_);refine zau ?_)|(with_reducible refine zst ?_)|((with_reducible refine Q07 ?_ ?_);rfl)|(with_reducible refine ok ?_;first|refine Qyn rfl ?_|refine Qym rfl ?_)|((with_reducible refine oj ?_);first|refine zad ?_|refine zsu ?_|refine zne ?_|refine zeq ?_|refine zmx ?_|refine zmn ?_|refine Qs6 rfl rfl rfl ?_)
  repeat first|((with_reducible refine oj ?_);refine zau ?_)|(with_reducible refine zst ?_)|((with_reducible refine Q07 ?_ ?_);rfl)|(with_reducible refine ok ?_;first|refine Qyn rfl ?_|refine Qym rfl ?_)|((with_reducible refine oj ?_);first|refine zad ?_|refine zsu ?_|refine zne ?_|refine zeq ?_|refine zmx ?_|refine zmn ?_|refine Qs6 rfl rfl rfl ?_)
  exact h.out):p:=f ⟨h⟩
theorem zO{p:Prop}(h:q)(f:ZW q->p:=by
  intro h;first|((with_reducible refine oj ?_);refine zau ?_)|(with_reducible refine zst ?_)|((with_reducible refine Q07 ?_ ?_);rfl)|(with_reducible refine ok ?_;first|refine Qyn rfl ?_|refine Qym rfl ?_)|((with_reducible refine oj ?_);first|refine zad ?_|refine zsu ?_|refine zne ?_|refine zeq ?_|refine zmx ?_|refine zmn ?_|refine Qs6 rfl rfl rfl ?_)
  exact h.out):p:=f ⟨h⟩
end Go.Proofs.YtlmokgooijbcdaaGreatDoor
namespace Go.Proofs.YtlmokgooijbcdaaGreatDoor
abbrev int (n:Int):AC:=.lit (.int .i64 n)
def cI (n:Int):List AC:=[int n]
def cAlt (a:Alt):List AC:=[int a.tag,.sl 1 (a.binds.map cI)]
def cEx (x:Ex):List AC:=[int x.op,int x.n,.sl 1 (x.binds.map cI),.sl 1 (x.kids.map cI),.sl 2 (x.alts.map cAlt)]
mutual
def encTr:Tr->List AC
 |.mk o n b k a=>[int o,int n,.sl 1 (b.map cI),.sl 1 (Q0y k),.sl 2 (a.map cAlt)]
def Q0y:List Tr->List (List AC)
 |[]=>[]
 |t::ts=>[.box (encTr t)]::Q0y ts
end
def cTr (t:Tr):List AC:=[int t.op,int t.n,.sl 1 (t.binds.map cI),.sl 1 (Q0y t.kids),.sl 2 (t.alts.map cAlt)]
def cB (t:Tr):List AC:=[.box (cTr t)]
theorem Qir(t:Tr):encTr t=cTr t:=by cases t;simp[encTr,cTr]
theorem Q0a:∀l:List Tr,Q0y l=l.map cB
 |[]=>rfl
 |t::ts=>by simp[Q0y,Q0a ts,Qir,cB]
theorem Q1z{l:List Tr}{t:Tr}(h:l[i]?=some t):(Q0y l)[i]?=some (cB t):=by rw[Q0a];simp[h]
attribute [simp] idsL idsS AC.ids FV.ids idsF Fr.ids inL isO AObj.ids
theorem Q2a{α:Type}{p:Abs.Id->Prop}{f:α->List AC}(h:∀x,idsL p (f x)):∀l:List α,idsS p (l.map f)
 |[]=>by simp
 |x::l=>by simp[h x,Q2a h l]
@[simp] theorem Qml (p:Abs.Id->Prop) (n:Int):idsL p (cI n):=by simp[cI]
@[simp] theorem Qda (p:Abs.Id->Prop) (l:List Int):idsS p (l.map cI):=Q2a (Qml p) l
@[simp] theorem Qpq (p:Abs.Id->Prop) (a:Alt):idsL p (cAlt a):=by simp[cAlt]
@[simp] theorem Qeu (p:Abs.Id->Prop) (l:List Alt):idsS p (l.map cAlt):=Q2a (Qpq p) l
@[simp] theorem Qmn (p:Abs.Id->Prop) (x:Ex):idsL p (cEx x):=by simp[cEx]
@[simp] theorem ids_cExs (p:Abs.Id->Prop) (l:List Ex):idsS p (l.map cEx):=Q2a (Qmn p) l
mutual
theorem Qmj(p:Abs.Id->Prop):∀t:Tr,idsL p (encTr t)
 |.mk o n b k a=>by simp[encTr,Q8a p k]
theorem Q8a(p:Abs.Id->Prop):∀l:List Tr,idsS p (Q0y l)
 |[]=>by simp[Q0y]
 |t::ts=>by simp[Q0y,Qmj p t,Q8a p ts]
end
attribute [simp] Q8a
@[simp] theorem ids_cTr (p:Abs.Id->Prop) (t:Tr):idsL p (cTr t):=by simp[cTr]
@[simp] theorem ids_cB (p:Abs.Id->Prop) (t:Tr):idsL p (cB t):=by simp[cB]
@[simp] theorem ids_cBs (p:Abs.Id->Prop) (l:List Tr):idsS p (l.map cB):=Q2a (ids_cB p) l
@[simp] theorem len_encTrs (l:List Tr):(Q0y l).length=l.length:=by rw[Q0a];simp
@[simp] theorem Q3v (ρ:Nat->Nat) (l:List Int):renS ρ (l.map cI)=l.map cI:=Q25 ρ _ (Qda _ l)
@[simp] theorem Q3w (ρ:Nat->Nat) (l:List Alt):renS ρ (l.map cAlt)=l.map cAlt:=Q25 ρ _ (Qeu _ l)
@[simp] theorem Qct (ρ:Nat->Nat) (l:List Tr):renS ρ (l.map cB)=l.map cB:=Q25 ρ _ (ids_cBs _ l)
@[simp] theorem ren_cEx (ρ:Nat->Nat) (x:Ex):renL ρ (cEx x)=cEx x:=Q2t ρ _ (Qmn _ x)
theorem Q0c{f:α->List AC}{l:List α}{a:α}(h:l[i]?=some a):(l.map f)[i]?=some (f a):=by simp[h]
theorem Q00{l:List α}(h:i < l.length):∃a,l[i]?=some a:=⟨l[i],Z0t h⟩
def arC:List AC:=(Q5u.map fun n=>Value.int .i64 n).map .lit
def orC:List AC:=[3,4,6,7,5,1,2,11,8,9].map fun n=>.lit (.int .i64 n)
def Γc:List (Nat×List AC):=[(1,arC)]
theorem hΓc:∀g cs,(g,cs)∈Γc->idsL isO cs:=fun g cs h=>by
 simp[Γc]at h;first
  |(obtain⟨rfl,rfl⟩:=h;simp[arC,Q5u];done)
  |(rcases h with ⟨rfl,rfl⟩|⟨rfl,rfl⟩ <;> simp[arC,orC,Q5u])
theorem follows:Tryz.prog.follows .mixedOrders=true:=by kernel_rfl
theorem zwk{g:Nat}{fn:Func}{c:Code}{args:List FV}{Q:FV->Outer->Prop}{Γ:List (Nat×List AC)}(N:Nat)(hf:Tryz.prog.funcs[g]?=some fn)(h:OuOk ou->ACode ⟨Tryz.prog,tab,Γ,N,[]⟩ c (Q05 ⟨Tryz.prog,tab,Γ,N,[]⟩ (Fin ⟨Tryz.prog,tab,Γ,N,[]⟩ fn Q) []) (argFr 0 args) ⟨0,[],ou⟩)(hb:fn.body=some c:=by exact rfl)(hname:(fn.name == "runtime.NumGoroutine")=false:=by kernel_rfl)(hN:fn.ntmps=N:=by exact rfl)(hlen:Nat.ble args.length N=true:=by exact rfl):AFn Tryz.prog Γ g args ou Q:=AFn.walk N tabOk hf hb hname hN hlen h
theorem zdx{id:Nat}{l tl:List Oper}(n:Nat)(cs:List (Nat×FV))(hcs:Q09 E l frb σ vs cs)(Qvf:AOps E l.toArray tl K fr' σ)(hT:TabOk E.P E.T:=by exact tabOk)(hm:E.P.follows .mixedOrders=true:=by exact follows)(hB:drawB l n=true:=by kernel_rfl)(hsp:Q2s n l=some (hd,tl):=by exact rfl)(hfb:Qrn (dsts hd) fr=some frb:=by exact rfl)(hrun:Q0l E l.toArray l frb σ cs 0 hd []=some vs:=by exact rfl)(hfr:frOf hd vs frb=some fr':=by exact rfl):ACode E (.region id l.toArray true) K fr σ:=Qrp hT n cs hm hB hsp hfb hrun hfr hcs Qvf
structure okX (x:Ex):Prop where
 b:x.binds.length<=1048576
 k:x.kids.length<=1048576
 a:x.alts.length<=1048576
 ab:∀a∈x.alts,a.binds.length<=1048576
structure okE (e:List Ex):Prop where
 l:e.length<=1048576
 x:∀x∈e,okX x
variable {Γ:List (Nat×List AC)}
def idxOf {α:Type}(p:α->Bool):List α->Int
 |[]=>-1
 |a::l=>if p a=true then 0 else if idxOf p l < 0 then -1 else idxOf p l+1
theorem Qic{α:Type}{p:α->Bool}:∀l:List α,-1<=idxOf p l
 |[]=>by simp[idxOf]
 |a::l=>by
  have:=Qic (p:=p) l;simp only[idxOf];split
  ·omega
  ·split <;> omega
theorem Q89{α:Type}{p:α->Bool}:∀{l:List α},(∀x∈l,p x=false)->idxOf p l=-1
 |[],_=>rfl
 |a::l,h=>by simp only[idxOf,h a zsy,Q89 (l:=l) (fun x hx=>h x (by simp[hx]))];simp
theorem Qd7{α:Type}{p:α->Bool}:∀{l:List α}{j:Nat}{a:α},(∀x∈l.take j,p x=false)->l[j]?=some a->p a=true->idxOf p l=j
 |[],j,a,_,h,_=>by simp at h
 |x::l,0,a,_,h,hp=>by simp at h;subst h;simp[idxOf,hp]
 |x::l,j+1,a,h0,h,hp=>by have:=Qd7 (l:=l) (j:=j) (fun y hy=>h0 y (by simp[hy])) (by simpa using h) hp;simp only[idxOf,h0 x zsy,this];rw[if_neg zsy,if_neg zoy];simp
theorem Qeq{α:Type}{p:α->Bool}:∀l:List α,0<=idxOf p l↔l.any p=true
 |[]=>by simp[idxOf]
 |a::l=>by
  have ih:=Qeq (p:=p) l;have hge:=Qic (p:=p) l;simp only[idxOf,List.any_cons,Qzk,←ih];by_cases hp:p a=true
  ·simp[hp]
  ·rw[if_neg hp];by_cases h:idxOf p l < 0
   ·rw[if_pos h];exact⟨fun h2=>by omega,fun h2=>h2.elim (fun h3=>absurd h3 hp) (fun h3=>by omega)⟩
   ·rw[if_neg h];exact⟨fun h2=>.inr zoy,fun h2=>by omega⟩
theorem Qer(l:List α):decide (idxOf p l ≥ 0)=l.any p:=by rw[Qzd,decide_eq_true_iff];exact Qeq l
theorem Q23{p:α->Prop}{l:List α}{a:α}(h:∀x∈l.take j,p x)(ha:l[j]?=some a)(hp:p a):∀x∈l.take (j+1),p x:=by
 intro x hx;rw[Z2g,ha]at hx;rcases Z1m.1 hx with hx|hx
 ·exact h x hx
 ·simp at hx;subst hx;exact hp
theorem Qmr(h:idsL isO caps):idsF isO (caps.map .one):=by
 induction caps with
 |nil=>trivial
 |cons c l ih=>exact⟨h.1,ih h.2⟩
theorem Q6b(n low high:Int):APure Tryz.prog Γ 146 [.one (int n),.one (int low),.one (int high)] (.one (.lit (.bool (between n low high)))):=by
 intro ou;refine zwk 15 Tryz.func146 fun hou=>?_;repeat' first|((with_reducible refine oj ?_);refine zau ?_)|(with_reducible refine zst ?_)|((with_reducible refine Q07 ?_ ?_);rfl)|(with_reducible refine ok ?_;first|refine Qyn rfl ?_|refine Qym rfl ?_)|(with_reducible refine oj ?_;refine Qrq rfl rfl rfl rfl (fun hb=>?_) (fun hb=>?_))|(with_reducible refine ok ?_;refine Qyl rfl (fun hb=>?_) (fun hb=>?_))
 all_goals exact Qz0 rfl (Z46 (by simp[between];first|(simp_all;done)|(simp_all;omega))) zsy hou rfl
theorem Qgk(n:Int):APure Tryz.prog Γ 86 [.one (int n)] (.one (.lit (.bool (Q68 n)))):=by
 intro ou;refine zwk 13 Tryz.func86 fun hou=>?_;repeat' first|((with_reducible refine oj ?_);refine zau ?_)|(with_reducible refine zst ?_)|((with_reducible refine Q07 ?_ ?_);rfl)|(with_reducible refine ok ?_;first|refine Qyn rfl ?_|refine Qym rfl ?_)|(with_reducible refine oj ?_;refine Qrq rfl rfl rfl rfl (fun hb=>?_) (fun hb=>?_))|(with_reducible refine ok ?_;refine Qyl rfl (fun hb=>?_) (fun hb=>?_))
 all_goals exact Qz0 rfl (Z46 (by simp[Q68];simp_all)) zsy hou rfl
theorem Qgm(n:Int):APure Tryz.prog Γ 85 [.one (int n)] (.one (.lit (.bool (Q7o n)))):=by
 intro ou;refine zwk 17 Tryz.func85 fun hou=>?_;repeat' first|((with_reducible refine oj ?_);refine zau ?_)|(with_reducible refine zst ?_)|((with_reducible refine Q07 ?_ ?_);rfl)|(with_reducible refine ok ?_;first|refine Qyn rfl ?_|refine Qym rfl ?_)|(with_reducible refine oj ?_;refine Qrq rfl rfl rfl rfl (fun hb=>?_) (fun hb=>?_))|(with_reducible refine ok ?_;refine Qyl rfl (fun hb=>?_) (fun hb=>?_))
 all_goals exact Qz0 rfl (Z46 (by simp[Q7o];simp_all)) zsy hou rfl
theorem Qqf(hΓ:GI Γ)(xs:List Int)(hx:xs.length<=1048576)(n:Int):
  APure Tryz.prog Γ 118 [.one (.sl 1 (xs.map cI)),.one (int n)] (.one (int (idxOf (n==·) xs))):=by
 intro ou;refine zwk 19 Tryz.func118 fun hou=>?_;refine zA ?_;refine Qre hΓ (α:=Nat) (fun j=>[(8,.one (int j)),(7,.one (int (xs.map cI).length)),(1,.one (int n)),(0,.one (.sl 1 (xs.map cI)))])
  (fun j=>⟨0,[],ou⟩) (fun m j=>j<=xs.length/\(∀x∈xs.take j,(n==x)=false)/\m=xs.length - j) (a0:=0) (ρ:=id) ⟨by omega,by simp,rfl⟩ (Qzw rfl zFS zsy zLO rfl rfl hou) fun m j hj=>?_
 obtain⟨hjl,hno,rfl⟩:=hj;refine zA ?_;refine Qyl rfl (fun hb2=>?_) (fun hb2=>?_)
 ·have hlt:j < xs.length:=by simpa using hb2
  obtain⟨a,ha⟩:=Q00 hlt;refine zA ?_;refine zS (zIA rfl rfl rfl zoy (by simpa using Q0c ha)) ?_;refine zA ?_;refine Qyl rfl (fun hb3=>?_) (fun hb3=>?_)
  ·refine zA ?_;refine Qz0 rfl (Z46 ?_) zsy hou rfl;rw[Qd7 hno ha hb3]
  ·refine zA ?_;refine zS (Qr0 rfl rfl rfl (.inl ⟨rfl,rfl⟩) zI) ?_;refine zA ?_;exact cInv ⟨xs.length - (j+1),j+1,id,by omega,⟨by omega,Q23 hno ha hb3,rfl⟩,Qzw rfl zFS zsy zLO rfl rfl hou⟩
 ·have hlt:j=xs.length:=by simp at hb2;omega
  subst hlt;rw[Z2j]at hno;refine zA ?_;refine Qz0 rfl (Z46 ?_) zsy hou rfl;rw[Q89 hno]
theorem Qgv(hΓ:GI Γ)(xs:List Int)(hx:xs.length<=1048576)(n:Int):
  APure Tryz.prog Γ 91 [.one (.sl 1 (xs.map cI)),.one (int n)] (.one (.lit (.bool (xs.contains n)))):=by
 intro ou;refine zwk 9 Tryz.func91 fun hou=>?_;refine zA ?_;refine zca hΓ (Qqf hΓ xs hx n) hou ?_;refine zA ?_;refine Qz0 rfl (Z46 ?_) zsy hou rfl;rw[Qer,List.any_beq]
theorem Qkh(hΓ:GI Γ)(gf:Nat)(caps:List AC)(hcap:idsL isO caps)(p:Alt->Bool)(xs:List Alt)(hx:xs.length<=1048576)(hf:∀a∈xs,APure Tryz.prog Γ gf (.agg (cAlt a)::caps.map .one) (.one (.lit (.bool (p a))))):
  APure Tryz.prog Γ 215 [.one (.sl 2 (xs.map cAlt)),.one (.fn (.func gf) [] caps)] (.one (int (idxOf p xs))):=by
 intro ou;refine zwk 19 Tryz.func215 fun hou=>?_;refine zA ?_;refine Qre hΓ (α:=Nat) (fun j=>[(8,.one (int j)),(7,.one (int (xs.map cAlt).length)),(1,.one (.fn (.func gf) [] caps)),(0,.one (.sl 2 (xs.map cAlt)))])
  (fun j=>⟨0,[],ou⟩) (fun m j=>j<=xs.length/\(∀x∈xs.take j,p x=false)/\m=xs.length - j) (a0:=0) (ρ:=id) ⟨by omega,by simp,rfl⟩ (Qzw rfl ?_ ?_ zLO rfl rfl hou) fun m j hj=>?_
 ·refine .cons rfl (.ofEq rfl) (.cons rfl (.ofEq rfl) (.consP rfl (.ofEq rfl) (by simp[hcap]) (.consP rfl (.ofEq rfl) zsy .nil)))
 ·simp[Q18 Qag caps hcap]
 obtain⟨hjl,hno,rfl⟩:=hj;refine zA ?_;refine Qyl rfl (fun hb2=>?_) (fun hb2=>?_)
 ·have hlt:j < xs.length:=by simpa using hb2
  obtain⟨a,ha⟩:=Q00 hlt;have hca:=hf a (Z1y ha);refine zA ?_;refine zS (zIA rfl rfl rfl zoy (by simpa using Q0c ha)) ?_;refine zA ?_;refine Qrl hΓ hca rfl rfl rfl rfl rfl rfl rfl hou (by simp[Qmr hcap]) ?_;refine zA ?_;refine Qyl rfl (fun hb3=>?_) (fun hb3=>?_)
  ·refine zA ?_;refine Qz0 rfl (Z46 ?_) zsy hou rfl;rw[Qd7 hno ha hb3]
  ·refine zA ?_;refine zS (Qr0 rfl rfl rfl (.inl ⟨rfl,rfl⟩) zI) ?_;refine zA ?_;refine cInv ⟨xs.length - (j+1),j+1,id,by omega,⟨by omega,Q23 hno ha hb3,rfl⟩,Qzw rfl ?_ ?_ zLO rfl rfl hou⟩
   ·refine .cons rfl (.ofEq rfl) (.cons rfl (.ofEq rfl) (.consP rfl (.ofEq rfl) (by simp[hcap]) (.consP rfl (.ofEq rfl) zsy .nil)))
   ·simp[Q18 Qag caps hcap]
 ·have hlt:j=xs.length:=by simp at hb2;omega
  subst hlt;rw[Z2j]at hno;refine zA ?_;refine Qz0 rfl (Z46 ?_) zsy hou rfl;rw[Q89 hno]
theorem Qo9(hΓ:GI Γ)(gf:Nat)(caps:List AC)(hcap:idsL isO caps)(p:Alt->Bool)(xs:List Alt)(hx:xs.length<=1048576)(hf:∀a∈xs,APure Tryz.prog Γ gf (.agg (cAlt a)::caps.map .one) (.one (.lit (.bool (p a))))):
  APure Tryz.prog Γ 177 [.one (.sl 2 (xs.map cAlt)),.one (.fn (.func gf) [] caps)] (.one (.lit (.bool (xs.any p)))):=by
 intro ou;refine zwk 9 Tryz.func177 fun hou=>?_;refine zA ?_;refine Qrl hΓ (Qkh hΓ gf caps hcap p xs hx hf) rfl rfl rfl rfl rfl rfl rfl hou (by simp[hcap]) ?_;refine zA ?_;refine Qz0 rfl (Z46 ?_) zsy hou rfl;rw[←Qer]
theorem Qq9(b a:Alt):APure Tryz.prog Γ 178 [.agg (cAlt b),.one (.box (cAlt a))] (.one (.lit (.bool (b.tag==a.tag)))):=by intro ou;refine zwk 9 Tryz.func178 fun hou=>?_;refine zA ?_;exact Qz0 rfl (Z46 rfl) zsy hou rfl
theorem Qq6(e:List Ex)(k:Int)(x:Ex)(h0:0<=k)(hx:e[k.toNat]?=some x):APure Tryz.prog Γ 88 [.one (int k),.one (.box [.sl 5 (e.map cEx)])] (.agg (cEx x)):=by intro ou;refine zwk 8 Tryz.func88 fun hou=>?_;refine zA ?_;refine zS (zIA rfl rfl rfl h0 (Q0c hx)) ?_;refine zA ?_;exact Qz0 rfl (Z46 rfl) zsy hou rfl
theorem alts_ok(hΓ:GI Γ)(x:Ex)(hx:okX x):APure Tryz.prog Γ 145 [.agg (cEx x)] (.one (.lit (.bool (Q7s x)))):=by
 have hxa:=hx.a;have hxb:=hx.ab;have hxk:=hx.k;intro ou;refine zwk 94 Tryz.func145 fun hou=>?_;refine zA ?_;refine Qre hΓ (α:=Nat) (fun j=>[(9,.one (int j)),(8,.one (int (x.alts.map cAlt).length)),(7,.one (.sl 2 (x.alts.map cAlt))),(1,.one (.ptr (.l 0) 0))])
  (fun j=>⟨1,[(0,.cells (cEx x))],ou⟩) (fun m j=>j<=x.alts.length/\(∀ai∈x.alts.zipIdx.take j,Q5a x ai.2 ai.1=false)/\m=x.alts.length - j) (a0:=0) (ρ:=id) ⟨by omega,by simp,rfl⟩ (Qzw rfl zFS zsy zLO rfl rfl hou) fun m j hj=>?_
 obtain⟨hjl,hno,rfl⟩:=hj;refine zA ?_;refine Qyl rfl (fun hb2=>?_) (fun hb2=>?_)
 ·have hlt:j < x.alts.length:=by simpa using hb2
  obtain⟨a,ha⟩:=Q00 hlt;have haz:x.alts.zipIdx[j]?=some (a,j):=by simp[Z10,ha]
  have hab:=hxb a (Z1y ha);have bad:Q5a x j a=true->Q7s x=false:=fun h=>by have:x.alts.zipIdx.any (fun ai=>Q5a x ai.2 ai.1)=true:=Z00.2 ⟨(a,j),Z1y haz,h⟩;simp[Q7s,this]
  refine zA ?_;refine zS (zIA rfl rfl rfl zoy (Q0c ha)) ?_;refine zA ?_;refine zS (Qry tabOk rfl rfl rfl rfl rfl rfl zuy) ?_;refine Qyx (.l 1) 4 rfl rfl ?_;refine Qyz 17 rfl (y:=.one (.sl 2 ((x.alts.take j).map cAlt))) (.ofEq (by rw[Z1k])) ?_;refine zA ?_;have hca:=Qo9 hΓ 178 [.box (cAlt a)] zsy (fun b=>b.tag==a.tag) (x.alts.take j) zuy (fun b _=>Qq9 b a);obtain⟨q,hq⟩:∃q,(x.alts.take j).any (fun b=>b.tag==a.tag)=q:=⟨_,rfl⟩;rw[hq]at hca;refine Qrl hΓ hca rfl rfl rfl rfl rfl rfl rfl hou (by simp[-List.map_take]) ?_;have fin:∀fr' σ',Q5a x j a=true->aRes tab fr' σ' Tryz.f145.results.toList=some (.one (.lit (.bool false)))->σ'.ou=ou->Abs.Fin ⟨Tryz.prog,tab,Γ,94,[]⟩ Tryz.f145 (fun r' ou'=>r'=.one (.lit (.bool (Q7s x)))/\ou'=ou) fr' σ':=fun fr' σ' h1 h2 h3=>
   Qz0 h2 (Z46 (by rw[bad h1])) zsy hou h3
  repeat' first|refine zN ?_|(with_reducible refine oj ?_;refine Qrq rfl rfl rfl rfl (fun hb=>?_) (fun hb=>?_))|(with_reducible refine ok ?_;first|refine Qsk rfl (fun hb=>?_) (fun hb=>?_)|refine Qyl rfl (fun hb=>?_) (fun hb=>?_))
  all_goals first
   |(
    refine fin _ _ ?_ rfl rfl;subst hq;simp_all[Q5a]
    done)
   |(
    refine cInv ⟨x.alts.length - (j+1),j+1,fun k=>if k=0 then 0 else k,by omega,⟨by omega,Q23 hno haz ?_,rfl⟩,Qzw rfl zFS zsy zLO rfl rfl hou⟩;subst hq;simp_all[Q5a]
    done)
 ·have hlt:j=x.alts.length:=by simp at hb2;omega
  subst hlt;have e:Q7s x=((x.kids.length:Int)==1+x.alts.length&&(x.op==7||decide (0 < x.alts.length))):=by
   have hall:x.alts.zipIdx.any (fun ai=>Q5a x ai.2 ai.1)=false:=by rw[Qzz];intro ai hai;have:=hno ai (by rw[Z2k zsy];exact hai);simp[this]
   simp only[Q7s,hall,Bool.not_false,Bool.true_and]
  clear hno;repeat' first|refine zN ?_|(with_reducible refine oj ?_;refine Qrq rfl rfl rfl rfl (fun hb=>?_) (fun hb=>?_))|(with_reducible refine ok ?_;first|refine Qsk rfl (fun hb=>?_) (fun hb=>?_)|refine Qyl rfl (fun hb=>?_) (fun hb=>?_))
  all_goals
   refine Qz0 rfl (Z46 ?_) zsy hou rfl;rw[e];simp_all
theorem arC_get{n:Int}(h0:0<=n)(h1:n<=11):(arC.drop (n.toNat * ti3.size))[0]?=some (int (Q5u.getD n.toNat 0)):=by
 obtain⟨m,rfl⟩:∃m:Nat,n=m:=⟨n.toNat,by omega⟩;have hm:m < 12:=by omega
 rw[Qzv,show ti3.size=1 from rfl,Z36]
 match m,hm with
 |0,_=>rfl
 |1,_=>rfl
 |2,_=>rfl
 |3,_=>rfl
 |4,_=>rfl
 |5,_=>rfl
 |6,_=>rfl
 |7,_=>rfl
 |8,_=>rfl
 |9,_=>rfl
 |10,_=>rfl
 |11,_=>rfl
def wk (x:Ex):Int×Int×Bool:=(wants x).getD (0,0,false)
theorem Qoj(x:Ex)(hx:okX x):APure Tryz.prog Γc 114 [.agg (cEx x)] (.one (.lit (.bool (CoreX.shape x)))):=by
 have hxa:=hx.a;have hxb:=hx.b;have hxk:=hx.k;have hal:=alts_ok hΓc x hx;intro ou;refine zwk 113 Tryz.func114 fun hou=>?_;repeat' first|(with_reducible refine oj ?_;refine AOps.auto tabOk rfl ?_)|(with_reducible first|refine o1 ?_|refine o2 ?_|refine o3 ?_|refine o4 ?_|refine o5 ?_|refine o6 ?_|refine o7 ?_|refine o8 ?_|refine oa ?_|refine ob ?_|refine oc ?_|refine od ?_|refine oe ?_|refine og ?_|refine oh ?_|refine oi ?_)|(with_reducible refine Q07 ?_ ?_;rfl)|(with_reducible refine ok ?_;first|refine Qyn rfl ?_|refine Qym rfl ?_)|((with_reducible refine oj ?_);first|refine zad ?_|refine zsu ?_|refine zne ?_|refine zeq ?_|refine zmx ?_|refine zmn ?_|refine Qs6 rfl rfl rfl ?_)
 refine Qs5 hΓc (α:=Unit) (fun _=>[(5,.one (.lit (.bool (wk x).2.2))),(4,.one (int (wk x).2.1)),(3,.one (int (wk x).1)),(1,.one (.ptr (.l 0) 0))])
  (fun _=>⟨1,[(0,.cells (cEx x))],ou⟩) (fun _=>(wants x).isSome=true/\¬(x.op=7∨x.op=13)) ?_ fun _ ha=>?_
 ·repeat' first|refine zN ?_|(with_reducible refine oj ?_;refine Qrq rfl rfl rfl rfl (fun hb=>?_) (fun hb=>?_))|(with_reducible refine ok ?_;first|refine Qsk rfl (fun hb=>?_) (fun hb=>?_)|refine Qyl rfl (fun hb=>?_) (fun hb=>?_))
  all_goals try (guard_hyp hb:(x.op==2)=true;refine Qrp tabOk 4 [] follows zky rfl rfl rfl rfl .nil ?_;repeat' first|refine zN ?_|(with_reducible refine oj ?_;refine Qrq rfl rfl rfl rfl (fun hb=>?_) (fun hb=>?_))|(with_reducible refine ok ?_;first|refine Qsk rfl (fun hb=>?_) (fun hb=>?_)|refine Qyl rfl (fun hb=>?_) (fun hb=>?_)))
  all_goals try (guard_hyp hb:(x.op==9)=true;refine Qrp tabOk 7 [] follows zky rfl rfl rfl rfl .nil ?_;repeat' first|refine zN ?_|(with_reducible refine oj ?_;refine Qrq rfl rfl rfl rfl (fun hb=>?_) (fun hb=>?_))|(with_reducible refine ok ?_;first|refine Qsk rfl (fun hb=>?_) (fun hb=>?_)|refine Qyl rfl (fun hb=>?_) (fun hb=>?_)))
  all_goals try (guard_hyp hb:(x.op==5)=true;refine Qrp tabOk 9 [(3,.one (int (((x.binds.map cI).length:Int)+1))),(7,.one (int (if ((x.binds.map cI).length:Int) > 1 then ((x.binds.map cI).length:Int)else 1)))] follows zky rfl rfl rfl rfl (.step rfl (zHP (Qr0 rfl rfl rfl (.inl ⟨rfl,rfl⟩) (Q2m zuy zuy))) (.step rfl (zHP (AStep.max2 (t:=3) (ty:=3) rfl rfl rfl)) .nil)) ?_;repeat' first|refine zN ?_|(with_reducible refine oj ?_;refine Qrq rfl rfl rfl rfl (fun hb=>?_) (fun hb=>?_))|(with_reducible refine ok ?_;first|refine Qsk rfl (fun hb=>?_) (fun hb=>?_)|refine Qyl rfl (fun hb=>?_) (fun hb=>?_)))
  all_goals try (refine zca hΓc hal hou ?_;repeat' first|refine zN ?_|(with_reducible refine oj ?_;refine Qrq rfl rfl rfl rfl (fun hb=>?_) (fun hb=>?_))|(with_reducible refine ok ?_;first|refine Qsk rfl (fun hb=>?_) (fun hb=>?_)|refine Qyl rfl (fun hb=>?_) (fun hb=>?_)))
  all_goals try (refine zca hΓc (Q6b x.n 0 11) hou ?_;repeat' first|refine zN ?_|(with_reducible refine oj ?_;refine Qrq rfl rfl rfl rfl (fun hb=>?_) (fun hb=>?_))|(with_reducible refine ok ?_;first|refine Qsk rfl (fun hb=>?_) (fun hb=>?_)|refine Qyl rfl (fun hb=>?_) (fun hb=>?_)))
  all_goals try (refine zS (Qs1 tabOk rfl rfl rfl rfl rfl rfl (by simp_all[between]) (by simp_all[between];show x.n < 12;omega)) ?_;refine zS (Qsl tabOk rfl rfl rfl rfl rfl (arC_get (by simp_all[between]) (by simp_all[between]))) ?_;repeat' first|refine zN ?_|(with_reducible refine oj ?_;refine Qrq rfl rfl rfl rfl (fun hb=>?_) (fun hb=>?_))|(with_reducible refine ok ?_;first|refine Qsk rfl (fun hb=>?_) (fun hb=>?_)|refine Qyl rfl (fun hb=>?_) (fun hb=>?_)))
  all_goals first
   |(refine cInv ⟨(),id,⟨?_,?_⟩,Qzw rfl (Qzo rfl (.ofEq ?_) (Qzo rfl (.ofEq ?_) (Qzo rfl (.ofEq ?_) (Qzo rfl (.ofEq rfl) .nil)))) zsy zLO rfl rfl hou⟩ <;> simp_all[wants,wk,FV.ren,AC.ren] <;> done)
   |(
    refine Qz0 rfl (Z46 ?_) zsy hou rfl;simp_all[CoreX.shape,wants]
    done)
 ·obtain⟨hw0,hn⟩:=ha;have hw:wants x=some (wk x):=by
   unfold wk;cases h:wants x with
   |none=>rw[h]at hw0;cases hw0
   |some v=>rfl
  generalize wk x=kbu at hw;obtain⟨k,b,u⟩:=kbu;have e:CoreX.shape x=((x.kids.length:Int)==k&&(x.binds.length:Int)==b&&x.alts.length==0&&(u||x.n==0)):=by unfold CoreX.shape;rw[if_neg hn,hw]
  repeat' first|refine zN ?_|(with_reducible refine oj ?_;refine Qrq rfl rfl rfl rfl (fun hb=>?_) (fun hb=>?_))|(with_reducible refine ok ?_;first|refine Qsk rfl (fun hb=>?_) (fun hb=>?_)|refine Qyl rfl (fun hb=>?_) (fun hb=>?_))
  all_goals
   refine Qz0 rfl (Z46 ?_) zsy hou rfl;rw[e];simp_all
def Q3p (x:Ex)(j:Nat):Int:=(x.alts.take j).foldl (fun f a=>if (a.binds.length:Int) > f then a.binds.length else f) x.binds.length
theorem Qdd{x:Ex}{a:Alt}(h:x.alts[j]?=some a):Q3p x (j+1)=if (a.binds.length:Int) > Q3p x j then (a.binds.length:Int)else Q3p x j:=by simp[Q3p,Z2g,h,Z0k]
theorem Qay{l:List α}{a:α}(h:l[j]?=some a)(hp:p a=false):l.all p=false:=by rw[List.all_eq_false];exact⟨a,Z1y h,by simp[hp]⟩
theorem Qdn{l:List α}(h:∀x∈l.take l.length,p x=true):l.all p=true:=by rw[Z2j]at h;exact Qzy.2 h
theorem Qld(hΓ:GI Γ)(x:Ex)(hx:okX x):APure Tryz.prog Γ 115 [.agg (cEx x)] (.one (int (ranges x))):=by
 have hxa:=hx.a;have hxb:=hx.b;have hxk:=hx.k;have hab:=hx.ab;intro ou;refine zwk 124 Tryz.func115 fun hou=>?_;repeat' first|(with_reducible refine oj ?_;refine AOps.auto tabOk rfl ?_)|(with_reducible first|refine o1 ?_|refine o2 ?_|refine o3 ?_|refine o4 ?_|refine o5 ?_|refine o6 ?_|refine o7 ?_|refine o8 ?_|refine oa ?_|refine ob ?_|refine oc ?_|refine od ?_|refine oe ?_|refine og ?_|refine oh ?_|refine oi ?_)|(with_reducible refine Q07 ?_ ?_;rfl)|(with_reducible refine ok ?_;first|refine Qyn rfl ?_|refine Qym rfl ?_)|((with_reducible refine oj ?_);first|refine zad ?_|refine zsu ?_|refine zne ?_|refine zeq ?_|refine zmx ?_|refine zmn ?_|refine Qs6 rfl rfl rfl ?_)
 refine Qs5 hΓ (α:=Unit) (fun _=>[(4,.one (int (lowN x.op))),(3,.one (int (highN x.op))),(1,.one (.ptr (.l 0) 0))])
  (fun _=>⟨1,[(0,.cells (cEx x))],ou⟩) (fun _=>True) ?_ fun _ _=>?_
 ·repeat' first|refine zN ?_|(with_reducible refine oj ?_;refine Qrq rfl rfl rfl rfl (fun hb=>?_) (fun hb=>?_))|(with_reducible refine ok ?_;first|refine Qsk rfl (fun hb=>?_) (fun hb=>?_)|refine Qyl rfl (fun hb=>?_) (fun hb=>?_))
  all_goals
   refine cInv ⟨(),id,trivial,Qzw rfl (Qzo rfl (.ofEq ?_) (Qzo rfl (.ofEq ?_) (Qzo rfl (.ofEq rfl) .nil))) zsy zLO rfl rfl hou⟩;all_goals simp_all[lowN,highN,FV.ren,AC.ren]
 refine zA ?_;refine zca hΓ (Q6b x.n (lowN x.op) (highN x.op)) hou ?_;refine zA ?_;refine Qyl rfl (fun hb=>?_) (fun hb=>?_)
 ·refine zA ?_;refine Qz0 rfl (Z46 ?_) zsy hou rfl;simp_all[ranges]
 have hn:ranges x=if x.binds.all Q33=false then 4 else if x.alts.all (Q3q x.op)=false then 4 else if ((decide (fields x > (if x.op=2 then 6 else 16))||((x.op==6||x.op==15)&&decide (16 < (x.kids.length:Int))))||(x.op==3&&decide (7 < (x.kids.length:Int))))||(x.op==14&&decide (6 < (x.kids.length:Int)))then 2 else 0:=by unfold ranges;rw[if_neg (by simp_all)]
 clear hb;refine zA ?_;refine Qre hΓ (α:=Nat) (fun j=>[(35,.one (int j)),(34,.one (int (x.binds.map cI).length)),(33,.one (.sl 1 (x.binds.map cI))),(5,.one (int (x.binds.map cI).length)),(1,.one (.ptr (.l 0) 0))])
  (fun j=>⟨1,[(0,.cells (cEx x))],ou⟩) (fun m j=>j<=x.binds.length/\(∀b∈x.binds.take j,Q33 b=true)/\m=x.binds.length - j) (a0:=0) (ρ:=id) ⟨by omega,by simp,rfl⟩ (Qzw rfl zFS zsy zLO rfl rfl hou) fun m j hj=>?_
 obtain⟨hjl,hno,rfl⟩:=hj;refine zA ?_;refine Qyl rfl (fun hb2=>?_) (fun hb2=>?_)
 ·have hlt:j < x.binds.length:=by simpa using hb2
  obtain⟨b,hbj⟩:=Q00 hlt;refine zA ?_;refine zS (zIA rfl rfl rfl zoy (Q0c hbj)) ?_;refine zA ?_;refine zca hΓ (Q6b b 0 1048575) hou ?_;refine zA ?_;refine Qyl rfl (fun hb=>?_) (fun hb=>?_)
  ·refine zA ?_;refine Qz0 rfl (Z46 ?_) zsy hou rfl;rw[hn,if_pos (Qay hbj (by simpa[Q33]using hb))]
  ·refine zM ?_;exact cInv ⟨x.binds.length - (j+1),j+1,id,by omega,⟨by omega,Q23 hno hbj (by simpa[Q33]using hb),rfl⟩,Qzw rfl zFS zsy zLO rfl rfl hou⟩
 have hlt:j=x.binds.length:=by simp at hb2;omega
 subst hlt;rw[if_neg (by simp[Qdn hno])]at hn;clear hno hb2 hjl;refine zA ?_;refine Qre hΓ (α:=Nat) (fun j=>[(46,.one (int j)),(45,.one (int (x.alts.map cAlt).length)),(44,.one (.sl 2 (x.alts.map cAlt))),(5,.one (int (Q3p x j))),(1,.one (.ptr (.l 0) 0))])
  (fun j=>⟨1,[(0,.cells (cEx x))],ou⟩) (fun m j=>j<=x.alts.length/\(∀b∈x.alts.take j,Q3q x.op b=true)/\m=x.alts.length - j) (a0:=0) (ρ:=id) ⟨by omega,by simp,rfl⟩ (Qzw rfl (Qzo rfl (.ofEq rfl) (Qzo rfl (.ofEq rfl) (Qzp rfl (.ofEq rfl) zsy (Qzo rfl (.ofEq (by simp[Q3p,FV.ren,AC.ren])) (Qzo rfl (.ofEq rfl) .nil))))) zsy zLO rfl rfl hou) fun m j hj=>?_
 obtain⟨hjl,hno,rfl⟩:=hj;refine zA ?_;refine Qyl rfl (fun hb2=>?_) (fun hb2=>?_)
 ·have hlt:j < x.alts.length:=by simpa using hb2
  obtain⟨a,ha⟩:=Q00 hlt;have hal:=hab a (Z1y ha);refine zA ?_;refine zS (zIA rfl rfl rfl zoy (Q0c ha)) ?_;have bad:Q3q x.op a=false->ranges x=4:=fun h=>by rw[hn,if_pos (Qay ha h)]
  repeat' first|refine zN ?_|(with_reducible refine oj ?_;refine Qrq rfl rfl rfl rfl (fun hb=>?_) (fun hb=>?_))|(with_reducible refine ok ?_;first|refine Qsk rfl (fun hb=>?_) (fun hb=>?_)|refine Qyl rfl (fun hb=>?_) (fun hb=>?_))
  all_goals try (refine Qz0 rfl (Z46 ?_) zsy hou rfl;rw[bad (by simp_all[Q3q])];done)
  all_goals
   have hr:Q3q x.op a=a.binds.all Q33:=by
    have:((decide (255 < a.tag)&&x.op==7)||decide (1048576<=a.tag))=false:=by first|(simp_all;done)|(simp_all;intro h;omega)
    unfold Q3q;rw[this];simp
   rw[hr]at bad;refine Qre hΓ (α:=Nat) (fun i=>[(66,.one (int i)),(65,.one (int (a.binds.map cI).length)),(64,.one (.sl 1 (a.binds.map cI))),(9,.one (.ptr (.l 1) 0)),(46,.one (int j)),(45,.one (int (x.alts.map cAlt).length)),(44,.one (.sl 2 (x.alts.map cAlt))),(5,.one (int (Q3p x j))),(1,.one (.ptr (.l 0) 0))])
    (fun i=>⟨2,[(1,.cells (cAlt a)),(0,.cells (cEx x))],ou⟩) (fun m i=>i<=a.binds.length/\(∀b∈a.binds.take i,Q33 b=true)/\m=a.binds.length - i) (a0:=0) (ρ:=id) ⟨by omega,by simp,rfl⟩ (Qzw rfl zFS zsy zLO rfl rfl hou) fun m i hi=>?_
   obtain⟨hil,hno2,rfl⟩:=hi;refine zA ?_;refine Qyl rfl (fun hb3=>?_) (fun hb3=>?_)
   ·have Qvg:i < a.binds.length:=by simpa using hb3
    obtain⟨b,hbj⟩:=Q00 Qvg;refine zA ?_;refine zS (zIA rfl rfl rfl zoy (Q0c hbj)) ?_;refine zA ?_;refine zca hΓ (Q6b b 0 1048575) hou ?_;refine zA ?_;refine Qyl rfl (fun hb4=>?_) (fun hb4=>?_)
    ·refine zA ?_;refine Qz0 rfl (Z46 ?_) zsy hou rfl;rw[bad (Qay hbj (by simpa[Q33]using hb4))]
    ·refine zM ?_;exact cInv ⟨a.binds.length - (i+1),i+1,id,by omega,⟨by omega,Q23 hno2 hbj (by simpa[Q33]using hb4),rfl⟩,Qzw rfl zFS zsy zLO rfl rfl hou⟩
   ·have Qvg:i=a.binds.length:=by simp at hb3;omega
    subst Qvg;refine zM ?_;refine cInv ⟨x.alts.length - (j+1),j+1,id,by omega,⟨by omega,Q23 hno ha (by rw[hr];exact Qdn hno2),rfl⟩,Qzw rfl (Qzo rfl (.ofEq rfl) (Qzo rfl (.ofEq rfl) (Qzp rfl (.ofEq rfl) zsy (Qzo rfl (.ofEq ?_) (Qzo rfl (.ofEq rfl) .nil))))) zsy zLO rfl rfl hou⟩;rw[Qdd ha];simp[FV.ren,AC.ren]
 ·have hlt:j=x.alts.length:=by simp at hb2;omega
  subst hlt;rw[if_neg (by simp[Qdn hno])]at hn;have hf:Q3p x x.alts.length=fields x:=by simp[Q3p,fields]
  rw[hf];clear hno hb2 hjl hf;generalize fields x=f at hn;repeat' first|refine zN ?_|(with_reducible refine oj ?_;refine Qrq rfl rfl rfl rfl (fun hb=>?_) (fun hb=>?_))|(with_reducible refine ok ?_;first|refine Qsk rfl (fun hb=>?_) (fun hb=>?_)|refine Qyl rfl (fun hb=>?_) (fun hb=>?_))
  all_goals
   refine Qz0 rfl (Z46 ?_) zsy hou rfl;rw[hn];simp_all
theorem Ql0{x:Ex}(h:CoreX.shape x=true)(h5:x.op=5):x.kids.length=x.binds.length+1:=by unfold CoreX.shape wants at h;simp[h5]at h;omega
theorem Qek(e:List Ex)(x:Ex)(hx:okX x)(hk:∀k∈x.kids,0<=k/\k.toNat < e.length):
  APure Tryz.prog Γc 87 [.agg (cEx x),.one (.fn (.func 88) [] [.box [.sl 5 (e.map cEx)]])] (.one (int (Q1p e x))):=by
 have hxb:=hx.b;intro ou;refine zwk 59 Tryz.func87 fun hou=>?_;refine zA ?_;refine zca hΓc (Qoj x hx) hou ?_;refine zA ?_;refine Qyl rfl (fun hb=>?_) (fun hb=>?_)
 ·refine zA ?_;refine Qz0 rfl (Z46 ?_) zsy hou rfl;simp_all[Q1p]
 have hs:CoreX.shape x=true:=by simpa using hb
 clear hb;refine zA ?_;refine zca hΓc (Qld hΓc x hx) hou ?_;refine zA ?_;refine Qyl rfl (fun hb=>?_) (fun hb=>?_)
 ·refine zA ?_;refine Qz0 rfl (Z46 ?_) zsy hou rfl;have:ranges x≠0:=by simpa using hb
  simp[Q1p,hs,this]
 have hr:ranges x=0:=by simpa using hb
 clear hb;have hn:Q1p e x=if (List.range x.binds.length).any (Q1l e x)=true then 3 else 0:=by simp[Q1p,hs,hr]
 refine zA ?_;refine Qre hΓc (α:=Nat) (fun j=>[(18,.one (int j)),(17,.one (int (x.binds.map cI).length)),(2,.one (.ptr (.l 0) 0)),(1,.one (.fn (.func 88) [] [.box [.sl 5 (e.map cEx)]]))])
  (fun j=>⟨1,[(0,.cells (cEx x))],ou⟩) (fun m j=>j<=x.binds.length/\(∀i∈(List.range x.binds.length).take j,Q1l e x i=false)/\m=x.binds.length - j) (a0:=0) (ρ:=id) ⟨by omega,by simp,rfl⟩ (Qzw rfl zFS zsy zLO rfl rfl hou) fun m j hj=>?_
 obtain⟨hjl,hno,rfl⟩:=hj;refine zA ?_;refine Qyl rfl (fun hb2=>?_) (fun hb2=>?_)
 ·have hlt:j < x.binds.length:=by simpa using hb2
  have hrj:(List.range x.binds.length)[j]?=some j:=by simp[hlt]
  obtain⟨b,hbj⟩:=Q00 hlt;refine zA ?_;have bad:Q1l e x j=true->Q1p e x=3:=fun h=>by rw[hn,if_pos (Z00.2 ⟨j,by simp[hlt],h⟩)]
  by_cases h5:x.op=5
  ·have hkl:j < x.kids.length:=by have:=Ql0 hs h5;omega
   obtain⟨k,hkj⟩:=Q00 hkl;obtain⟨k0,k1⟩:=hk k (Z1y hkj);obtain⟨y,hy⟩:=Q00 k1;have hcall:=Qq6 (Γ:=Γc) e k y k0 hy;have hbb:Q1l e x j=!(y.op==2):=by
    have e1:x.kids.getD j 0=k:=by simp[List.getD,hkj]
    have e2:e.getD k.toNat ⟨0,0,[],[],[]⟩=y:=by simp[List.getD,hy]
    unfold Q1l;rw[e1,e2];simp[h5]
   rw[hbb]at bad;cases hy2:(y.op==2) with
   |false=>
    refine zdx 36 [(2,.one (.lit (.bool true))),(8,.one (.box (cI k))),(10,.agg (cEx y)),(12,.one (.lit (.bool true)))] ?_ ?_
    ·refine .step rfl (Qs2 tabOk rfl (by simp[h5])) ?_;refine .step rfl (Qrf rfl rfl rfl (zIA rfl rfl rfl zoy (Q0c hkj))) ?_;refine .step rfl (Qrf rfl rfl rfl (Qrc hΓc rfl rfl rfl rfl zsy hou hcall)) ?_;exact .step rfl (Qs2 tabOk rfl (by simp_all)) .nil
    refine zM ?_;refine Qz0 rfl (Z46 ?_) zsy hou rfl;rw[bad (by simp[hy2])]
   |true=>
    refine zdx 36 [(2,.one (.lit (.bool true))),(8,.one (.box (cI k))),(10,.agg (cEx y)),(12,.one (.lit (.bool false))),(17,.one (.lit (.bool false)))] ?_ ?_
    ·refine .step rfl (Qs2 tabOk rfl (by simp[h5])) ?_;refine .step rfl (Qrf rfl rfl rfl (zIA rfl rfl rfl zoy (Q0c hkj))) ?_;refine .step rfl (Qrf rfl rfl rfl (Qrc hΓc rfl rfl rfl rfl zsy hou hcall)) ?_;refine .step rfl (Qs2 tabOk rfl (by simp_all)) ?_;exact .step rfl (Qs2 tabOk rfl (by simp[h5])) .nil
    refine zM ?_;exact cInv ⟨x.binds.length - (j+1),j+1,id,by omega,⟨by omega,Q23 hno hrj (by rw[hbb,hy2];rfl),rfl⟩,Qzw rfl zFS zsy zLO rfl rfl hou⟩
  ·by_cases h9:x.op=9
   ·cases j with
    |zero=>
     have hbb:Q1l e x 0=false:=by simp[Q1l,h5]
     refine zdx 36 [(2,.one (.lit (.bool false))),(17,.one (.lit (.bool true))),(20,.one (.lit (.bool false)))] ?_ ?_
     ·refine .step rfl (Qs2 tabOk rfl (by simp[h5])) ?_;refine .step rfl (Qs2 tabOk rfl (by simp[h9])) ?_;exact .step rfl (Qs2 tabOk rfl zdy) .nil
     refine zM ?_;exact cInv ⟨x.binds.length - 1,1,id,by omega,⟨by omega,Q23 hno hrj hbb,rfl⟩,Qzw rfl zFS zsy zLO rfl rfl hou⟩
    |succ j=>
     obtain⟨a,haj⟩:=Q00 (l:=x.binds) (i:=j) zoy;have hbb:Q1l e x (j+1)=decide (a ≥ b):=by
      have e1:x.binds.getD j 0=a:=by simp[List.getD,haj]
      have e2:x.binds.getD (j+1) 0=b:=by simp[List.getD,hbj]
      unfold Q1l;rw[show j+1 - 1=j from rfl,e1,e2];simp[h5,h9]
     refine zdx 36 [(2,.one (.lit (.bool false))),(17,.one (.lit (.bool true))),(20,.one (.lit (.bool true))),(26,.one (int j)),(27,.one (.box (cI a))),(32,.one (.box (cI b)))] ?_ ?_
     ·refine .step rfl (Qs2 tabOk rfl (by simp[h5])) ?_;refine .step rfl (Qs2 tabOk rfl (by simp[h9])) ?_;refine .step rfl (Qs2 tabOk rfl (by exact decide_eq_true zoy)) ?_;refine .step rfl (Qrf rfl rfl rfl (Qr0 rfl rfl rfl (.inr (.inl ⟨rfl,by omega⟩)) zI)) ?_;refine .step rfl (Qrf rfl rfl rfl (zIA rfl rfl rfl zoy (Q0c haj))) ?_;exact .step rfl (Qrf rfl rfl rfl (zIA rfl rfl rfl zoy (Q0c hbj))) .nil
     refine zA ?_;refine Qyl rfl (fun hb=>?_) (fun hb=>?_)
     ·refine zA ?_;refine Qz0 rfl (Z46 ?_) zsy hou rfl;rw[bad (by rw[hbb];exact hb)]
     ·refine zM ?_;exact cInv ⟨x.binds.length - (j+1+1),j+1+1,id,by omega,⟨by omega,Q23 hno hrj (by rw[hbb];exact hb),rfl⟩,Qzw rfl zFS zsy zLO rfl rfl hou⟩
   ·have hbb:Q1l e x j=false:=by simp[Q1l,h5,h9]
    refine zdx 36 [(2,.one (.lit (.bool false))),(17,.one (.lit (.bool false)))] ?_ ?_
    ·refine .step rfl (Qs2 tabOk rfl (by simp[h5])) ?_;exact .step rfl (Qs2 tabOk rfl (by simp[h9])) .nil
    refine zM ?_;exact cInv ⟨x.binds.length - (j+1),j+1,id,by omega,⟨by omega,Q23 hno hrj hbb,rfl⟩,Qzw rfl zFS zsy zLO rfl rfl hou⟩
 ·have hlt:j=x.binds.length:=by simp at hb2;omega
  subst hlt;have:(List.range x.binds.length).any (Q1l e x)=false:=by rw[Qzz];intro i hi;simp[hno i (by rw[Z2k zsy];exact hi)]
  refine zA ?_;refine Qz0 rfl (Z46 ?_) zsy hou rfl;rw[hn,this];rfl
theorem Qqh(hΓ:GI Γ)(t:Tr)(k:Int)(hk:-1048576<=k/\k<=1048576)(ha:t.alts.length<=1048576):
  APure Tryz.prog Γ 147 [.one (.box (cTr t)),.one (int k)] (.one (.sl 1 ((Q3b t.op t.binds t.alts k).map cI))):=by
 intro ou;refine zwk 58 Tryz.func147 fun hou=>?_;repeat' first|refine zN ?_|(with_reducible refine oj ?_;refine Qrq rfl rfl rfl rfl (fun hb=>?_) (fun hb=>?_))|(with_reducible refine ok ?_;first|refine Qsk rfl (fun hb=>?_) (fun hb=>?_)|refine Qyl rfl (fun hb=>?_) (fun hb=>?_))
 all_goals try
  (
  have h1:0 < k:=by simp_all
  have h2:k<=t.alts.length:=by simp_all
  obtain⟨a,ha2⟩:=Q00 (l:=t.alts) (i:=(k - 1).toNat) zoy;refine zS (zIA rfl rfl rfl zoy (Q0c ha2)) ?_;have hb2:Q3b t.op t.binds t.alts k=a.binds:=by
   have e1:t.alts.getD (k - 1).toNat ⟨0,[]⟩=a:=by rw[Z0o,ha2];rfl
   unfold Q3b;rw[if_neg (by simp_all),if_pos zoy,e1]
  rw[hb2];repeat' first|refine zN ?_|(with_reducible refine oj ?_;refine Qrq rfl rfl rfl rfl (fun hb=>?_) (fun hb=>?_))|(with_reducible refine ok ?_;first|refine Qsk rfl (fun hb=>?_) (fun hb=>?_)|refine Qyl rfl (fun hb=>?_) (fun hb=>?_))
  exact Qz0 rfl (Z46 rfl) zsy hou rfl)
 all_goals first
  |(
   refine Qz0 rfl (Z46 ?_) zsy hou rfl;simp_all[Q3b]
   done)
  |(
   refine Qz0 rfl (.trans (.one (.nilS 1)) (.ofEq ?_)) zsy hou rfl;simp_all[Q3b]
   done)
  |(
   refine Qz0 rfl (.trans (.one (.nilS 1)) (.ofEq ?_)) zsy hou rfl;simp_all[Q3b];intros;omega)
def Q5s (pre:List Int)(al:List Alt)(j:Nat):List Int:=pre++(al.take j).flatMap (·.binds)
theorem Q6u{a:Alt}(h:al[j]?=some a):Q5s pre al (j+1)=Q5s pre al j++a.binds:=by simp[Q5s,Z2g,h,Z0h]
def Q8k (t:Tr):Nat:=t.binds.length+(t.alts.flatMap (·.binds)).length
theorem Qke(j:Nat):(Q5s pre al j).length<=pre.length+(al.flatMap (·.binds)).length:=by
 simp only[Q5s,Z12];have:((al.take j).flatMap (·.binds)).length<=(al.flatMap (·.binds)).length:=by
  conv=>rhs;rw[←Z2h j al,Z0h,Z12]
  omega
 omega
theorem Qce(hΓ:GI Γ)(t:Tr)(hl:Q8k t<=4194304)(ha:t.alts.length<=1048576):
  APure Tryz.prog Γ 71 [.one (.box (cTr t))] (.one (.sl 1 ((Q0s t.op t.binds t.alts).map cI))):=by
 unfold Q8k at hl;intro ou;refine zwk 46 Tryz.func71 fun hou=>?_;iterate 11 (refine zO ?_)
 refine Qrz 3 3 1 rfl ?_;have he0:Q0s t.op t.binds t.alts=Q5s (if t.op=2∨t.op=4∨t.op=5 then t.binds else []) t.alts t.alts.length:=by simp[Q0s,Q5s]
 obtain⟨pre,hpre⟩:∃pre,pre=(if t.op=2∨t.op=4∨t.op=5 then t.binds else []):=⟨_,rfl⟩;rw[he0,←hpre];have hpl:pre.length<=t.binds.length:=by rw[hpre];split <;> simp
 refine Qs5 hΓ (α:=Unit) (fun _=>[(3,.one (.gs 1 (pre.map cI) (.l 0))),(0,.one (.box (cTr t)))])
  (fun _=>⟨1,[(0,.tok 3 1 pre.length)],ou⟩) (fun _=>True) ?_ fun _ _=>?_
 ·repeat' first|refine zN ?_|(with_reducible refine oj ?_;refine Qrq rfl rfl rfl rfl (fun hb=>?_) (fun hb=>?_))|(with_reducible refine ok ?_;first|refine Qsk rfl (fun hb=>?_) (fun hb=>?_)|refine Qyl rfl (fun hb=>?_) (fun hb=>?_))
  all_goals first
   |(
    have:pre=t.binds:=by simp_all
    subst this;refine AOps.app tabOk rfl rfl rfl rfl rfl rfl rfl rfl rfl (Qrm _ _ _ _ _ (by rfl) zsy) (.sl _ _) rfl (by simp;show _ * 8<=_;omega) zuy ?_;repeat' first|refine zN ?_|(with_reducible refine oj ?_;refine Qrq rfl rfl rfl rfl (fun hb=>?_) (fun hb=>?_))|(with_reducible refine ok ?_;first|refine Qsk rfl (fun hb=>?_) (fun hb=>?_)|refine Qyl rfl (fun hb=>?_) (fun hb=>?_))
    exact cInv ⟨(),fun _=>1,trivial,Qzw rfl (Qs9 rfl rfl zsy (Qzp rfl (.ofEq rfl) zsy .nil)) zsy (Z2m rfl (by simp[AObj.ren];rfl) rfl zsy .nil) rfl rfl hou⟩)
   |(
    have:pre=[]:=by simp_all
    subst this;exact cInv ⟨(),id,trivial,Qzw rfl (Qs9 rfl rfl zsy (Qzp rfl (.ofEq rfl) zsy .nil)) zsy zLO rfl rfl hou⟩)
 clear hpre he0;refine zA ?_;refine Qre hΓ (α:=Nat) (fun j=>[(36,.one (int j)),(35,.one (int (t.alts.map cAlt).length)),(34,.one (.sl 2 (t.alts.map cAlt))),(3,.one (.gs 1 ((Q5s pre t.alts j).map cI) (.l 0))),(0,.one (.box (cTr t)))])
  (fun j=>⟨1,[(0,.tok 3 1 (Q5s pre t.alts j).length)],ou⟩) (fun m j=>j<=t.alts.length/\m=t.alts.length - j) (a0:=0) (ρ:=id) ⟨by omega,rfl⟩
  (Qzw rfl (Qzo rfl (.ofEq rfl) (Qzo rfl (.ofEq rfl) (Qzp rfl (.ofEq rfl) zsy (Qs9 (by simp[Q5s];rfl) rfl zsy (Qzp rfl (.ofEq rfl) zsy .nil))))) zsy (Z2m rfl (by simp[AObj.ren,Q5s]) rfl zsy .nil) rfl rfl hou) fun m j hj=>?_
 obtain⟨hjl,rfl⟩:=hj;refine zA ?_;refine Qyl rfl (fun hb2=>?_) (fun hb2=>?_)
 ·have hlt:j < t.alts.length:=by simpa using hb2
  obtain⟨a,ha2⟩:=Q00 hlt;have hbl:=Qke (pre:=pre) (al:=t.alts) (j+1);rw[Q6u ha2]at hbl;simp only[Z12]at hbl;refine zA ?_;refine zS (zIA rfl rfl rfl zoy (Q0c ha2)) ?_;refine zA ?_;refine AOps.app tabOk rfl rfl rfl rfl rfl rfl rfl rfl rfl (Qrm _ _ _ _ _ (by rfl) zsy) (.sl _ _) rfl (by simp;show _ * 8<=_;omega) zuy ?_;refine zM ?_;exact cInv ⟨t.alts.length - (j+1),j+1,fun _=>2,by omega,⟨by omega,rfl⟩,Qzw rfl (Qzo rfl (.ofEq rfl) (Qzo rfl (.ofEq rfl) (Qzp rfl (.ofEq rfl) zsy (Qs9 (by rw[Q6u ha2,Z1e];rfl) rfl zsy (Qzp rfl (.ofEq rfl) zsy .nil))))) zsy (Z2m rfl (by simp[AObj.ren,Q6u ha2];rfl) rfl zsy .nil) rfl rfl hou⟩
 ·have hlt:j=t.alts.length:=by simp at hb2;omega
  subst hlt;refine zA ?_;exact Qz0 rfl (.one (.gsE rfl)) zsy hou rfl
end Go.Proofs.YtlmokgooijbcdaaGreatDoor
namespace Go.Abs
theorem Qu0{t:TypeId}{s:Nat}(hT:TabOk E.P E.T)(ho:o.op=.buildSlice t 0 #[])(ht:Tab.get t E.T=some ti)(hk:Nat.beq ti.kind 2=true)(hj:Tab.get ti.elem E.T=some tj)(hs:tj.size=s):
  AStep E o fr σ (.one (.gs s [] (.l σ.n))) (σ.push (.tok ti.elem s 0)):=by
 intro F w C tmps hi hf next Q hk2
 have hsl:=(hT t ti ht).slice (Z2v hk);have hsz:=(hT _ _ hj).run_sizeOf w;have hrun:(execOp (Act.eval ⟨tmps,E.ds⟩) o).run E.P w=.ok (.value (.slice (some ⟨w.heap.size,0,none⟩) 0 0)) (w.alloc (.cells #[] ti.elem)):=by unfold execOp;simp only[ho];simp[Instr.buildSlice,run_underlying hsl,hsz,Instr.fill,newRow,Array.range_zero']
 have hno:=Qr4 C (some (w.heap.size,0)) (fun _=>False) hi.next;have he:Ext w C (w.alloc (.cells #[] ti.elem)) (C.tokd (some (w.heap.size,0)) (fun _=>False)):=⟨fun a ha=>Z48 _ _ _ (hi.prot a ha),fun _ h=>.inl h,fun i _ ho=>Qr3 C _ _ ho⟩;have hadd:Inv E.Γ F (w.alloc (.cells #[] ti.elem)) (C.tokd (some (w.heap.size,0)) (fun _=>False)) (σ.push (.tok ti.elem s 0)):=by
  refine hi.addObj (o:=.tok ti.elem s 0) (d:=.l σ.n) (σ.get_push _) he ?_ ?_ ?_ ?_ ?_ hno.1 ?_ ?_
  ·simp[Ctx.tokd,Ctx.more,St.push,hi.next]
  ·intro k hk;have:=hi.base k hk;simp;omega
  ·intro a ha;rcases ha with ha|ha
   ·have:=hi.prot a ha;simp;omega
   ·exact ha.elim
  ·intro i p hp g x hb hx;exact Q2w w _ hx
  ·intro i p hp a hb hlt ha;exact ha.resolve_right id
  ·simp only[ObjOk,hno.2];refine⟨#[],heap_alloc_new w _,fun hF=>by have:=hi.base _ hF;omega,by simp,Z30 _,by simp[maxLen],fun a ha hp=>?_⟩;rcases hp with hp|hp
   ·have:=hi.prot a hp;omega
   ·exact hp.elim
  ·intro i p g hp hb hb2;simp only[AObj.block,hno.2,Z3m,Z3o]at hb2;have:=(Qqn (hi.obj i p hp).2 hb).2;omega
 unfold Oper.wp;rw[hrun,Z3f];refine hk2 _ _ _ ⟨Stp.alloc hi.base _ _,he,by simp[Ctx.tokd,Ctx.more],fun a ha=>ha.imp id (fun h=>h.elim)⟩ hadd ?_;simp only[RF,R];exact⟨hno.1,.inr ⟨_,0,rfl,Z30 _,hno.2,by simp[RS]⟩⟩
theorem Qu1{id:Nat}{l tl:List Oper}{σ1:St}{va:FV}{oal:Oper}(hT:TabOk E.P E.T)(n al:Nat)(cs:List (Nat×FV))(hm:E.P.follows .mixedOrders=true)(hB:drawB l n=true)(Qwo:Nat.ble (al+1) n=true)(hsp:Q2s n l=some (hd,tl))(hfb:Qrn (dsts hd) fr=some frb)
  (Qwg:l[al]?=some oal) (hrun:Q0l E l.toArray l frb σ ((al,va)::cs) 0 hd []=some vs) (Qvx:Q0l E l.toArray l frb σ1 ((al,va)::cs) 0 hd []=some vs) (hfr:frOf hd vs frb=some fr') (hal:HStep E l.toArray oal (depFr l vs oal++frb) σ σ1 va) (hcs:Q09 E l frb σ vs cs) (Qwc:Q09 E l frb σ1 vs cs) (Qvf:AOps E l.toArray tl K fr' σ1):ACode E (.region id l.toArray true) K fr σ:=by
 obtain⟨h1,h2⟩:=Q38 hsp;subst h1;subst h2;have h3:=Qro hfb;have h4:=Q6r hfr;have hn:n < l.length:=by simp only[drawB,Qzc,decide_eq_true_eq]at hB;exact hB.1.1.1.1.1
 have hlast:((l.take n).zipIdx.all fun x=>x.1.after.all fun e=>!Region.binds .any e||decide (e.on < x.2))=true:=by simp only[drawB,Qzc]at hB;exact hB.2
 refine Qrk n al vs _ hm Qwo hB rfl frb h3 (Q5h (n:=n) (va:=va) hT (fun k o hk hkn=>?_) Qwg hal hcs Qwc _ 0 [] vs rfl (fun i o hi=>?_) hrun Qvx rfl) (by rw[h4];exact Qvf)
 ·have:=Qzy.1 hlast (o,k) (by rw[Z1v];exact⟨k,by rw[Z10,Z0z hkn,hk];simp⟩);exact this
 ·have hi2:i < n:=by have:=(Z0v.1 hi).1;simp at this;omega
  rw[Z0z hi2]at hi;exact⟨by simpa using hi,by omega⟩
end Go.Abs
namespace Go.Proofs.YtlmokgooijbcdaaGreatDoor
variable {Γ:List (Nat×List AC)}
theorem Q4g(l:List Int)(hl:l.length<=1048576):APure Tryz.prog Γ 58 [.one (.sl 1 (l.map cI))] (.one (.sl 1 (l.map cI))):=by
 intro ou;refine zwk 8 Tryz.func58 fun hou=>?_;refine zA ?_;refine Qsm rfl rfl rfl rfl Tryz.underlying32 rfl rfl fun b hb=>?_;cases b with
 |true=>
  have hz:l=[]:=by have:=hb rfl;simpa using this
  subst hz;refine zA ?_;exact Qz0 rfl (.one (.nilS 1)) zsy hou rfl
 |false=>
  refine zA ?_;refine zS (Qu0 tabOk rfl rfl rfl rfl rfl) ?_;refine zA ?_;refine AOps.app tabOk rfl rfl rfl rfl rfl rfl rfl rfl rfl (Qrm _ _ _ _ _ (by rfl) zsy) (.sl _ _) rfl (by simp;show _ * 8<=_;omega) zuy ?_;refine zA ?_;exact Qz0 rfl (.one (.gsE zsy)) zsy hou rfl
section
variable {β:Type}
def encI (enc:β->FV)(l:List (Nat×Int×β)):List (Nat×Value×FV):=l.map fun x=>(x.1,.int .i64 x.2.1,enc x.2.2)
structure IMOk (f:Int->Option β)(ck:Nat)(l:List (Nat×Int×β)):Prop where
 born:∀x∈l,x.1 < ck
 nb:(l.map (·.1)).Nodup
 look:∀k,(l.find? (fun x=>x.2.1==k)).map (·.2.2)=f k
 nk:(l.map (·.2.1)).Nodup
def setF (f:Int->Option β)(k:Int)(v:β):Int->Option β:=fun j=>if k=j then some v else f j
theorem IMOk.nil:IMOk (fun _=>none:Int->Option β) 0 []:=⟨by simp,by simp,fun k=>rfl,by simp⟩
variable (enc:β->FV)
theorem keysI(l:List (Nat×Int×β)):Qj3 (.int .i64) (encI enc l):=by intro x hx;simp only[encI,Z1w]at hx;obtain⟨y,_,rfl⟩:=hx;rfl
theorem Qha(k:Int):Instr.sameNow (.int .i64) (.int .i64 k) (.int .i64 k)=some true:=by simp[Instr.sameNow]
theorem Ql5{j:Int}(h:k≠j):Instr.sameNow (.int .i64) (.int .i64 k) (.int .i64 j)=some false:=by simp[Instr.sameNow,h]
theorem Qm3(k:Int):∀l:List (Nat×Int×β),mFind (.int .i64 k) (encI enc l)=((l.find? (fun x=>x.2.1==k)).map (·.2.2)).map enc
 |[]=>rfl
 |(b,j,t)::l=>by
  have ih:=Qm3 k l;simp only[encI,Z1g,mFind,Q88,Z0f]at ih ⊢;by_cases e:j=k
  ·subst e;simp[Qha]
  ·rw[Ql5 (Z3d e),beq_eq_false_iff_ne.2 e];exact ih
theorem Qi0{f:Int->Option β}{l:List (Nat×Int×β)}(h:IMOk f ck l)(k:Int):mFind (.int .i64 k) (encI enc l)=(f k).map enc:=by rw[Qm3,h.look]
def repl (k:Int)(v:β)(l:List (Nat×Int×β)):List (Nat×Int×β):=l.map fun x=>if x.2.1=k then (x.1,k,v)else x
theorem mPut_I(k:Int)(v:β)(ck:Nat):∀l:List (Nat×Int×β),(l.map (·.2.1)).Nodup->mPut (.int .i64 k) (enc v) ck (encI enc l)=if k∈l.map (·.2.1)then (encI enc (repl k v l),ck)else (encI enc (l++[(ck,k,v)]),ck+1)
 |[],_=>rfl
 |(b,j,t)::l,hn=>by
  simp only[Z1g,Z27]at hn;have ih:=mPut_I k v ck l hn.2;simp only[encI,Z1g,mPut,Q88,Z03]at ih ⊢;by_cases e:j=k
  ·subst e;rw[Qha,if_pos zsy];have:repl j v l=l:=by unfold repl;rw[Z1f (g:=id),Z1h];intro x hx;rw[if_neg];rfl;rintro e;exact hn.1 (e▸Z1x hx)
   have h2:repl j v ((b,j,t)::l)=(b,j,v)::l:=by
    have:repl j v ((b,j,t)::l)=(b,j,v)::repl j v l:=by simp[repl]
    rw[this];congr 1
   rw[h2];rfl
  ·rw[Ql5 (Z3d e)];simp only[ih];by_cases hm:k∈l.map (·.2.1)
   ·rw[if_pos hm,if_pos (by simp[hm])];have h2:repl k v ((b,j,t)::l)=(b,j,t)::repl k v l:=by simp[repl,e]
    rw[h2];rfl
   ·rw[if_neg hm,if_neg (by simp only[Z1p,not_or];exact⟨Z3d e,hm⟩)]
theorem IMOk.put{f:Int->Option β}{l:List (Nat×Int×β)}(h:IMOk f ck l)(k:Int)(v:β):∃ck' l',mPut (.int .i64 k) (enc v) ck (encI enc l)=(encI enc l',ck')/\IMOk (setF f k v) ck' l':=by
 rw[mPut_I enc k v ck l h.nk];by_cases hm:k∈l.map (·.2.1)
 ·rw[if_pos hm];refine⟨_,_,rfl,?_,?_,fun j=>?_,?_⟩
  ·intro x hx;obtain⟨y,hy,rfl⟩:=Z1w.1 hx;have:=h.born y hy;split <;> exact this
  ·have:(repl k v l).map (·.1)=l.map (·.1):=by simp only[repl,Z1i];refine Z1f fun x _=>?_;simp only[Function.comp];split <;> rfl
   rw[this];exact h.nb
  ·have key:∀l:List (Nat×Int×β),k∈l.map (·.2.1)->((repl k v l).find? (fun x=>x.2.1==j)).map (·.2.2)=if k=j then some v else (l.find? (fun x=>x.2.1==j)).map (·.2.2):=by
    intro l
    induction l with
    |nil=>intro h;simp at h
    |cons y l ih=>
     intro hm;obtain⟨b,i,t⟩:=y;by_cases e:i=k
     ·subst e;have h2:repl i v ((b,i,t)::l)=(b,i,v)::repl i v l:=by simp[repl]
      rw[h2,Z0f,Z0f];by_cases e2:i=j
      ·subst e2;simp
      ·simp only[beq_eq_false_iff_ne.2 e2,if_neg e2];by_cases hm2:i∈l.map (·.2.1)
       ·rw[ih hm2,if_neg e2]
       ·have:repl i v l=l:=by unfold repl;rw[Z1f (g:=id),Z1h];intro x hx;rw[if_neg];rfl;rintro e;exact hm2 (e▸Z1x hx)
        rw[this]
     ·have h2:repl k v ((b,i,t)::l)=(b,i,t)::repl k v l:=by simp[repl,e]
      have hm2:k∈l.map (·.2.1):=by
       rcases Z1p.1 hm with h3|h3
       ·exact absurd h3.symm e
       ·exact h3
      rw[h2,Z0f,Z0f];by_cases e2:i=j
      ·subst e2;simp[Z3d e]
      ·simp only[beq_eq_false_iff_ne.2 e2];exact ih hm2
   rw[key l hm];unfold setF;rw[h.look]
  ·have:(repl k v l).map (·.2.1)=l.map (·.2.1):=by
    simp only[repl,Z1i];refine Z1f fun x _=>?_;simp only[Function.comp];split
    ·rename_i e;exact e.symm
    ·rfl
   rw[this];exact h.nk
 ·rw[if_neg hm];refine⟨_,_,rfl,?_,?_,fun j=>?_,?_⟩
  ·intro x hx;rcases Z1m.1 hx with hx|hx
   ·have:=h.born x hx;omega
   ·simp at hx;subst hx;exact Z34 _
  ·rw[Z1e,Z26];refine⟨h.nb,by simp,fun a ha b hb e=>?_⟩;simp at hb;obtain⟨x,hx,rfl⟩:=Z1w.1 ha;have:=h.born x hx;omega
  ·rw[List.find?_append];unfold setF;by_cases e:k=j
   ·subst e;rw[if_pos rfl,Z0g.2 (fun x hx=>by simp;rintro e;exact hm (e▸Z1x hx))];simp
   ·rw[if_neg e,←h.look j];have:((k:Int)==j)=false:=beq_eq_false_iff_ne.2 e;cases hf:l.find? (fun x=>x.2.1==j) with
    |none=>simp[this]
    |some x=>simp
  ·rw[Z1e,Z26];refine⟨h.nk,by simp,fun a ha b hb e=>?_⟩;simp at hb;subst hb;exact hm (e▸ha)
theorem Qd9(henc:∀b p,(enc b).ids p)(p:Abs.Id->Prop)(ck:Nat)(l:List (Nat×Int×β)):AObj.ids p (.map ck (encI enc l)):=by intro x hx;simp only[encI,Z1w]at hx;obtain⟨y,_,rfl⟩:=hx;exact henc _ _
theorem Qu2{t kt:TypeId}{i y:Operand}{m:Abs.Id}{l:List (Nat×Int×β)}{f:Int->Option β}{v:β}(hgd:o.guard=none)(hd:o.dst=none)(ho:o.op=.mapUpdate t x i y)(hm:E.P.underlying t=some (.map kt et))(hk:E.P.underlying kt=some (.int .i64))
  (hx:aEval E.Γ fr x=some (.one (.mp m))) (hg:σ.get m=some (.map ck (encI enc l))) (hu:aEval E.Γ fr i=some (.one (int k))) (hy:aEval E.Γ fr y=some (enc v)) (hf:IMOk f ck l)
  (h:∀ck' l',IMOk (setF f k v) ck' l'->AOps E ops rest K fr (σ.set m (.map ck' (encI enc l')))):AOps E ops (o::rest) K fr σ:=by
 obtain⟨ck',l',h1,h2⟩:=hf.put enc k v;have hs:=AStep.mapUpdate (σ:=σ) ho hm hk hx hg hu hy rfl (keysI enc l);rw[h1]at hs;have hrest:=h ck' l' h2;exact AOps.step hgd (by rw[hd];rfl) hs (by rw[hd];exact hrest)
theorem Qu3{t kt:TypeId}{i:Operand}{m:Abs.Id}{l:List (Nat×Int×β)}{f:Int->Option β}{zv:Value}{z v:FV}{cm:Bool}(ho:o.op=.lookup t x i cm)(hm:E.P.underlying t=some (.map kt et))(hk:E.P.underlying kt=some (.int .i64))
  (hx:aEval E.Γ fr x=some (.one (.mp m))) (hg:σ.get m=some (.map ck (encI enc l))) (hu:aEval E.Γ fr i=some (.one (int k))) (hzv:(E.P.info? et).map (·.zero)=some (some zv)) (hz:∀w C,RF w C z zv) (hf:IMOk f ck l) (hv:(match f k with|some b=>enc b|none=>z)=v):
  AStep E o fr σ (if cm=true then .tup [v,.one (.lit (.bool (f k).isSome))]else v) σ:=by
 have h:=Qse (z:=z) (v:=v) ho hm hk hx hg hu rfl (keysI enc l) hzv hz (by rw[Qi0 enc hf,←hv];cases f k <;> rfl);rw[Qi0 enc hf]at h;have e:((f k).map enc).isSome=(f k).isSome:=by cases f k <;> rfl
 rw[e]at h;exact h
end
def eU:Unit->FV:=fun _=>.agg []
def eN:Int->FV:=fun n=>.one (int n)
theorem eU_ids(b:Unit)(p:Abs.Id->Prop):(eU b).ids p:=by simp[eU]
theorem eN_ids(b:Int)(p:Abs.Id->Prop):(eN b).ids p:=by simp[eN]
@[simp] theorem Qif (p:Abs.Id->Prop) (ck:Nat) (l:List (Nat×Int×Unit)):AObj.ids p (.map ck (encI eU l)):=Qd9 eU eU_ids p ck l
@[simp] theorem Qig (p:Abs.Id->Prop) (ck:Nat) (l:List (Nat×Int×Int)):AObj.ids p (.map ck (encI eN l)):=Qd9 eN eN_ids p ck l
def hasE {β:Type}(l:List (Nat×Int×β))(a:Nat)(k:Value)(v:β):Prop:=∃x∈l,x.1=a/\.int .i64 x.2.1=k/\x.2.2=v
@[simp] theorem Qhz (a:Nat) (k:Value) (b:FV) (l:List (Nat×Int×Unit)):(a,k,b)∈encI eU l↔b=.agg []/\hasE l a k ():=by simp only[encI,eU,Z1w,Z3p];exact⟨fun ⟨x,h1,h2,h3,h4⟩=>⟨h4.symm,⟨x,h1,h2,h3,rfl⟩⟩,fun ⟨h4,⟨x,h1,h2,h3,_⟩⟩=>⟨x,h1,h2,h3,h4.symm⟩⟩
@[simp] theorem mem_encN (a:Nat) (k:Value) (b:FV) (l:List (Nat×Int×Int)):(a,k,b)∈encI eN l↔∃v,hasE l a k v/\.one (int v)=b:=by simp only[encI,eN,Z1w,Z3p];exact⟨fun ⟨x,h1,h2,h3,h4⟩=>⟨_,⟨x,h1,h2,h3,rfl⟩,h4⟩,fun ⟨v,⟨x,h1,h2,h3,h5⟩,h4⟩=>⟨x,h1,h2,h3,by rw[h5];exact h4⟩⟩
@[simp] theorem Qcs (ρ:Nat->Nat) (ck:Nat) (l:List (Nat×Int×Unit)):AObj.ren ρ (.map ck (encI eU l))=.map ck (encI eU l):=Qyr _ _ (Qif _ ck l)
@[simp] theorem ren_mapN (ρ:Nat->Nat) (ck:Nat) (l:List (Nat×Int×Int)):AObj.ren ρ (.map ck (encI eN l))=.map ck (encI eN l):=Qyr _ _ (Qig _ ck l)
theorem zeroU(w:World)(C:Ctx):RF w C (.agg []) (.agg #[]):=⟨[],rfl,rfl⟩
theorem zeroN(w:World)(C:Ctx):RF w C (.one (int 0)) (.int .i64 0):=by simp[RF,R,Value.oneCell']
@[simp] theorem Qd8 (p:Abs.Id->Prop):∀l:List Int,idsL p (l.map int)
 |[]=>by simp
 |n::l=>by simp[Qd8 p l]
@[simp] theorem ids_intset (p:Abs.Id->Prop) (l:List Int) (i:Nat) (v:Int):idsL p ((l.map int).set i (int v)):=by rw[←List.map_set];exact Qd8 p _
@[simp] theorem Qid (p:Abs.Id->Prop) (v:Value):∀n:Nat,idsL p (List.replicate n (.lit v))
 |0=>by simp
 |n+1=>by simp[Z2b,Qid p v n]
theorem idxI{t:TypeId}{i:Operand}{k:IntKind}{j:Abs.Id}{len cap:Nat}(hT:TabOk E.P E.T)(ho:o.op=.indexAddr t x i)(ht:Tab.get t E.T=some ti)(hk:Nat.beq ti.kind 2=true)(hj:Tab.get ti.elem E.T=some tj)(hs:Nat.beq tj.size 1=true)
  (hx:aEval E.Γ fr x=some (.one (.arr j 1 0 len cap))) (hi':aEval E.Γ fr i=some (.one (.lit (.int k n)))) (hn:n < len):AStep E o fr σ (.one (.ptr j n)) σ:=by
 have h:=Qsb (σ:=σ) hT ho ht hk hj hs hx hi' hn;simpa using h
theorem loadI{t:TypeId}{j:Abs.Id}{p:List Int}(hT:TabOk E.P E.T)(ho:o.op=.load t x)(ht:Tab.get t E.T=some ti)(ha:ti.agg=false)(hs:Nat.beq ti.size 1=true)(hx:aEval E.Γ fr x=some (.one (.ptr j n)))
  (hg:σ.get j=some (.cells (p.map int))) (hc:p[n]?=some v):AStep E o fr σ (.one (int v)) σ:=
 Qsc hT ho ht ha hs hx hg (by simp[hc])
theorem Qks{t:TypeId}{y:Operand}{j:Abs.Id}{p:List Int}(hT:TabOk E.P E.T)(hgd:o.guard=none)(hd:o.dst=none)(ho:o.op=.store t x y)(ht:Tab.get t E.T=some ti)(hs:Nat.beq ti.size 1=true)(hx:aEval E.Γ fr x=some (.one (.ptr j n)))
  (hy:aEval E.Γ fr y=some (.one (int v))) (hg:σ.get j=some (.cells (p.map int))) (hlt:n < p.length) (h:AOps E ops rest K fr (σ.set j (.cells ((p.set n v).map int)))):AOps E ops (o::rest) K fr σ:=by
 refine Qyy hT hgd hd ho ht hs hx hy hg (by simpa using hlt) ?_;rw[←List.map_set];exact h
inductive Two (i j k:Nat)(A0 A1:FV)(σ0 σ1 σ2:St):(Nat->Option FV)->St->Prop
 |n:Two i j k A0 A1 σ0 σ1 σ2 (fun _=>none) σ0
 |a:Two i j k A0 A1 σ0 σ1 σ2 (updV (fun _=>none) i A0) σ1
 |b:Two i j k A0 A1 σ0 σ1 σ2 (updV (fun _=>none) j A0) σ1
 |ab:Two i j k A0 A1 σ0 σ1 σ2 (updV (updV (fun _=>none) i A0) j A1) σ2
 |ac:Two i j k A0 A1 σ0 σ1 σ2 (updV (updV (fun _=>none) i A0) k A0) σ1
 |ba:Two i j k A0 A1 σ0 σ1 σ2 (updV (updV (fun _=>none) j A0) i A1) σ2
 |abc:Two i j k A0 A1 σ0 σ1 σ2 (updV (updV (updV (fun _=>none) i A0) j A1) k A0) σ2
 |acb:Two i j k A0 A1 σ0 σ1 σ2 (updV (updV (updV (fun _=>none) i A0) k A0) j A1) σ2
 |bac:Two i j k A0 A1 σ0 σ1 σ2 (updV (updV (updV (fun _=>none) j A0) i A1) k A1) σ2
def z0 (e:List Ex):List Int:=List.replicate e.length 0
def runTo (e:List Ex)(j:Nat):Option (List Int×List Int):=(e.zipIdx.take j).foldl Q24 (some (z0 e,z0 e))
theorem Qe3(e:List Ex):runTo e e.length=Q5b e:=by unfold runTo Q5b z0;rw[Z2k zsy]
theorem zip_at{x:Ex}(h:e[j]?=some x):e.zipIdx[j]?=some (x,j):=by simp[Z10,h]
theorem Qbe{x:Ex}(h:e[j]?=some x):runTo e (j+1)=Q24 (runTo e j) (x,j):=by unfold runTo;rw[Z2g,zip_at h,Z0k];rfl
theorem Ql7(h:runTo e j=none):Q5b e=none:=by rw[←Qe3];unfold runTo at h ⊢;rw[Z2k (l:=e.zipIdx) zsy,←Z2h j e.zipIdx,Z0k,h,Q7b]
theorem Qae(h:ks[i]?=some k):(ks.take (i+1)).foldl (Q1q j) s=Q1q j ((ks.take i).foldl (Q1q j) s) k:=by rw[Z2g,h,Z0k];rfl
theorem Qjm(h:(ks.take i).foldl (Q1q j) s=none):ks.foldl (Q1q j) s=none:=by rw[←Z2h i ks,Z0k,h,Q49]
theorem Q86{l:List Int}{a b:Int}(h:∀x∈l,a<=x/\x<=b)(hv:a<=v/\v<=b):∀x∈l.set i v,a<=x/\x<=b:=fun x hx=>by
 rcases Z20 hx with hx|rfl
 ·exact h x hx
 ·exact hv
theorem Q8c{l:List Int}(h:l[i]?=some v):l.getD i 0=v:=by rw[Z0o,h];rfl
theorem Qdw(hΓ:GI Γ)(e:List Ex)(he:okE e):APure Tryz.prog Γ 84 [.one (.sl 5 (e.map cEx))] (.one (int (Q1d e))):=by
 have hel:=he.l;intro ou;refine zwk 93 Tryz.func84 fun hou=>?_;refine zA ?_;refine Qyl rfl (fun hb=>?_) (fun hb=>?_)
 ·refine zA ?_;refine Qz0 rfl (Z46 ?_) zsy hou rfl;have:4096 < e.length:=by simp at hb;omega
  simp[Q1d,this]
 have h1:e.length<=4096:=by simp at hb;omega
 clear hb;refine zA ?_;refine Qyl rfl (fun hb=>?_) (fun hb=>?_)
 ·refine zA ?_;refine Qz0 rfl (Z46 ?_) zsy hou rfl;have:e.length=0:=by simpa using hb
  simp[Q1d,this]
 have h2:e.length≠0:=by simpa using hb
 clear hb;have hn:Q1d e=(match Q5b e with|none=>3|some (d,p)=>if (List.range e.length).any (Q2g e.length p)=true then 3 else if 400 < d.getD (e.length - 1) 0 then 2 else 0):=by unfold Q1d;rw[if_neg zoy,if_neg h2];rfl
 refine zA ?_;refine Qs5 hΓ (α:=Unit) (fun _=>[(4,.one (.arr (.l 1) 1 0 (e.map cEx).length (e.map cEx).length)),(3,.one (.arr (.l 0) 1 0 (e.map cEx).length (e.map cEx).length)),(0,.one (.sl 5 (e.map cEx)))])
  (fun _=>⟨2,[(1,.cells ((z0 e).map int)),(0,.cells ((z0 e).map int))],ou⟩) (fun _=>True) ?_ fun _ _=>?_
 ·have hz:(z0 e).map int=List.replicate (e.map cEx).length (.lit (.int .i64 0)):=by simp[z0]
  rw[hz];have hb:ti3.bytes * (e.map cEx).length<=281474976710656:=by simp;show 8 * _<=_;omega
  have hb2:(e.map cEx).length<=281474976710656:=by simp;omega
  refine Qso 7 [2,5,6] [.one (.sl 5 (e.map cEx)),.one (int (e.map cEx).length),.bot,.one (.sl 5 (e.map cEx)),.one (int (e.map cEx).length),.bot,.bot]
   (Two 2 5 6 (.one (.arr (.l 0) 1 0 (e.map cEx).length (e.map cEx).length)) (.one (.arr (.l 1) 1 0 (e.map cEx).length (e.map cEx).length)) ⟨0,[],ou⟩ ⟨1,[(0,.cells (List.replicate (e.map cEx).length (.lit (.int .i64 0))))],ou⟩ ⟨2,[(1,.cells (List.replicate (e.map cEx).length (.lit (.int .i64 0)))),(0,.cells (List.replicate (e.map cEx).length (.lit (.int .i64 0))))],ou⟩)
   follows zky rfl rfl .n ?_ ?_ ?_ ?_
  ·intro f σ h i hi;have:2≠i/\5≠i/\6≠i:=⟨(by rintro rfl;cases hi),(by rintro rfl;cases hi),(by rintro rfl;cases hi)⟩;cases h <;> simp[updV,this]
  ·intro i o hi hS hlo
   match i,hi with
   |0,_=>cases hlo;exact⟨_,rfl,rfl,rfl,by kernel_rfl,fun f σ _=>Qzr tabOk rfl⟩
   |1,_=>cases hlo;exact⟨_,rfl,rfl,rfl,by kernel_rfl,fun f σ _=>Qzr tabOk rfl⟩
   |2,_=>cases hS
   |3,_=>cases hlo;exact⟨_,rfl,rfl,rfl,by kernel_rfl,fun f σ _=>Qzr tabOk rfl⟩
   |4,_=>cases hlo;exact⟨_,rfl,rfl,rfl,by kernel_rfl,fun f σ _=>Qzr tabOk rfl⟩
   |5,_=>cases hS
   |6,_=>cases hS
  ·intro f σ i o h hS hlo hfi Qvw;have hi:i=2∨i=5∨i=6:=by simp only[List.any_cons,List.any_nil,Bool.or_false,Qzk]at hS;rcases hS with h|h|h <;> have:=Z2v h <;> omega
   rcases hi with rfl|rfl|rfl <;> cases hlo
   ·cases h with
    |n=>exact⟨rfl,rfl,_,_,Qzs rfl (Qsa (σ:=⟨0,[],ou⟩) tabOk rfl rfl rfl rfl rfl rfl rfl rfl hb hb2),.a⟩
    |b=>exact⟨rfl,rfl,_,_,Qzs rfl (Qsa (σ:=⟨1,[(0,.cells (List.replicate (e.map cEx).length (.lit (.int .i64 0))))],ou⟩) tabOk rfl rfl rfl rfl rfl rfl rfl rfl hb hb2),.ba⟩
    |_=>cases hfi
   ·cases h with
    |n=>exact⟨rfl,rfl,_,_,Qzs rfl (Qsa (σ:=⟨0,[],ou⟩) tabOk rfl rfl rfl rfl rfl rfl rfl rfl hb hb2),.b⟩
    |a=>exact⟨rfl,rfl,_,_,Qzs rfl (Qsa (σ:=⟨1,[(0,.cells (List.replicate (e.map cEx).length (.lit (.int .i64 0))))],ou⟩) tabOk rfl rfl rfl rfl rfl rfl rfl rfl hb hb2),.ab⟩
    |ac=>exact⟨rfl,rfl,_,_,Qzs rfl (Qsa (σ:=⟨1,[(0,.cells (List.replicate (e.map cEx).length (.lit (.int .i64 0))))],ou⟩) tabOk rfl rfl rfl rfl rfl rfl rfl rfl hb hb2),.acb⟩
    |_=>cases hfi
   ·cases h with
    |a=>exact⟨rfl,rfl,_,_,Qzr tabOk rfl,.ac⟩
    |ab=>exact⟨rfl,rfl,_,_,Qzr tabOk rfl,.abc⟩
    |ba=>exact⟨rfl,rfl,_,_,Qzr tabOk rfl,.bac⟩
    |n=>exact absurd (Qvw _ (Z1r ..) rfl rfl) zsy
    |b=>exact absurd (Qvw _ (Z1r ..) rfl rfl) (by simp[updV])
    |_=>cases hfi
  ·intro f σ h hall;have h2:=hall 2 zsy zoy;have h5:=hall 5 zsy zoy;have h6:=hall 6 zsy zoy;cases h with
   |abc=>
    refine zA ?_;exact cInv ⟨(),id,trivial,Qzw rfl zFS zsy zLO rfl rfl hou⟩
   |acb=>
    refine zA ?_;exact cInv ⟨(),id,trivial,Qzw rfl zFS zsy zLO rfl rfl hou⟩
   |bac=>
    refine zA ?_;exact cInv ⟨(),fun k=>if k=0 then 1 else 0,trivial,Qzw rfl zFS zsy zLO rfl rfl hou⟩
   |n=>cases h2
   |a=>cases h5
   |b=>cases h2
   |ab=>cases h6
   |ac=>cases h5
   |ba=>cases h6
 refine zA ?_;refine Qre hΓ (α:=Nat×List Int×List Int) (fun a=>[(25,.one (int a.1)),(24,.one (int (e.map cEx).length)),(23,.one (.sl 5 (e.map cEx))),(4,.one (.arr (.l 1) 1 0 (e.map cEx).length (e.map cEx).length)),(3,.one (.arr (.l 0) 1 0 (e.map cEx).length (e.map cEx).length)),(0,.one (.sl 5 (e.map cEx)))])
  (fun a=>⟨2,[(1,.cells (a.2.2.map int)),(0,.cells (a.2.1.map int))],ou⟩)
  (fun m a=>a.1<=e.length/\runTo e a.1=some (a.2.1,a.2.2)/\(a.2.1.length=e.length/\a.2.2.length=e.length)/\(∀v∈a.2.1,0<=v/\v<=(a.1:Int))/\(∀v∈a.2.2,0<=v/\v<=(a.1:Int) * 1048576)/\m=e.length - a.1)
  (a0:=(0,z0 e,z0 e)) (ρ:=id) ⟨by omega,rfl,⟨by simp[z0],by simp[z0]⟩,by simp[z0],by simp[z0],rfl⟩ (Qzw rfl zFS zsy zLO rfl rfl hou) fun m a hj=>?_
 obtain⟨j,d,p⟩:=a;obtain⟨hjl,hrun,⟨hdl,hpl⟩,hdb,hpb,rfl⟩:=hj;simp only at hjl hrun hdl hpl hdb hpb;refine zA ?_;refine Qyl rfl (fun hb2=>?_) (fun hb2=>?_)
 ·have hlt:j < e.length:=by simpa using hb2
  obtain⟨x,hx⟩:=Q00 hlt;have hxo:=he.x x (Z1y hx);have hxk:=hxo.k;refine zA ?_;refine zS (zIA rfl rfl rfl zoy (Q0c hx)) ?_;refine zA ?_;refine Qre hΓ (α:=Nat×List Int×List Int) (fun a=>[(33,.one (int a.1)),(32,.one (int (x.kids.map cI).length)),(31,.one (.sl 1 (x.kids.map cI))),(5,.one (int j)),(25,.one (int j)),(24,.one (int (e.map cEx).length)),(23,.one (.sl 5 (e.map cEx))),(4,.one (.arr (.l 1) 1 0 (e.map cEx).length (e.map cEx).length)),(3,.one (.arr (.l 0) 1 0 (e.map cEx).length (e.map cEx).length)),(0,.one (.sl 5 (e.map cEx)))])
   (fun a=>⟨2,[(1,.cells (a.2.2.map int)),(0,.cells (a.2.1.map int))],ou⟩)
   (fun m a=>a.1<=x.kids.length/\(x.kids.take a.1).foldl (Q1q j) (some (d,p))=some (a.2.1,a.2.2)/\(a.2.1.length=e.length/\a.2.2.length=e.length)/\(∀v∈a.2.1,0<=v/\v<=(j:Int))/\(∀v∈a.2.2,0<=v/\v<=(j:Int) * 1048576+a.1)/\m=x.kids.length - a.1)
   (a0:=(0,d,p)) (ρ:=id) ⟨by omega,rfl,⟨hdl,hpl⟩,hdb,fun v hv=>by have:=hpb v hv;show 0<=v/\v<=(j:Int) * 1048576+((0:Nat):Int);omega,rfl⟩ (Qzw rfl zFS zsy zLO rfl rfl hou) fun m a hi=>?_
  obtain⟨i,d',p'⟩:=a;obtain⟨hil,hki,⟨hdl',Qvu⟩,hdb',hpb',rfl⟩:=hi;simp only at hil hki hdl' Qvu hdb' hpb';obtain⟨dj,hdj⟩:=Q00 (l:=d') (i:=j) zoy;have hdjb:=hdb' dj (Z1y hdj);refine zA ?_;refine Qyl rfl (fun hb3=>?_) (fun hb3=>?_)
  ·have Qvg:i < x.kids.length:=by simpa using hb3
   obtain⟨k,hk⟩:=Q00 Qvg;have bad:(k < 0∨(j:Int)<=k)->Q1d e=3:=fun h=>by
    have h1:(x.kids.take (i+1)).foldl (Q1q j) (some (d,p))=none:=by rw[Qae hk,hki];simp only[Q1q,Z3h];rw[if_pos h]
    have h2:=Qjm h1;have h3:runTo e (j+1)=none:=by rw[Qbe hx,hrun];simp only[Q24];rw[h2];rfl
    rw[hn,Ql7 h3]
   refine zA ?_;refine zS (zIA rfl rfl rfl zoy (Q0c hk)) ?_;by_cases hkk:k < 0∨(j:Int)<=k
   ·repeat' first|refine zN ?_|(with_reducible refine oj ?_;refine Qrq rfl rfl rfl rfl (fun hb=>?_) (fun hb=>?_))|(with_reducible refine ok ?_;first|refine Qsk rfl (fun hb=>?_) (fun hb=>?_)|refine Qyl rfl (fun hb=>?_) (fun hb=>?_))
    all_goals first
     |(
      refine Qz0 rfl (Z46 ?_) zsy hou rfl;rw[bad hkk]
      done)
     |(exfalso;simp only[decide_eq_false_iff_not,decide_eq_true_eq]at *;omega)
   ·obtain⟨k,rfl⟩:∃k':Nat,k=k':=⟨k.toNat,by omega⟩;have hkj:k < j:=by omega
    obtain⟨pk,hpk⟩:=Q00 (l:=p') (i:=k) zoy;obtain⟨dk,hdk⟩:=Q00 (l:=d') (i:=k) zoy;have hpkb:=hpb' pk (Z1y hpk);have hdkb:=hdb' dk (Z1y hdk);repeat' first|refine zN ?_|(with_reducible refine oj ?_;refine Qrq rfl rfl rfl rfl (fun hb=>?_) (fun hb=>?_))|(with_reducible refine ok ?_;first|refine Qsk rfl (fun hb=>?_) (fun hb=>?_)|refine Qyl rfl (fun hb=>?_) (fun hb=>?_))
    all_goals first
     |(exfalso;simp at hb;done)
     |(exfalso;simp at hb;omega)
     |skip
    refine zS (idxI tabOk rfl rfl rfl rfl rfl rfl rfl zuy) ?_;refine zS (loadI tabOk rfl rfl rfl rfl rfl rfl hpk) ?_;refine zS (Qr0 rfl rfl rfl (.inl ⟨rfl,rfl⟩) zI) ?_;refine zS (idxI tabOk rfl rfl rfl rfl rfl rfl rfl zuy) ?_;refine Qks tabOk rfl rfl rfl rfl rfl rfl rfl rfl (show k < p'.length by omega) ?_;refine zA ?_;refine zdx 11 [(4,.one (.ptr (.l 0) j)),(5,.one (int dj)),(8,.one (.ptr (.l 0) k)),(9,.one (int dk)),(10,.one (int (if dk > dj then dk else dj)))] ?_ ?_
    ·refine .step rfl (zHP (idxI tabOk rfl rfl rfl rfl rfl rfl rfl zuy)) ?_;refine .step rfl (zHP (loadI tabOk rfl rfl rfl rfl rfl rfl hdj)) ?_;refine .step rfl (zHP (idxI tabOk rfl rfl rfl rfl rfl rfl rfl zuy)) ?_;refine .step rfl (zHP (loadI tabOk rfl rfl rfl rfl rfl rfl hdk)) ?_;exact .step rfl (zHP (AStep.max2 (t:=3) (ty:=3) rfl rfl rfl)) .nil
    refine zA ?_;refine zS (idxI tabOk rfl rfl rfl rfl rfl rfl rfl zuy) ?_;refine Qks tabOk rfl rfl rfl rfl rfl rfl rfl rfl (show j < d'.length by omega) ?_;refine zM ?_;refine cInv ⟨x.kids.length - (i+1),(i+1,d'.set j (if dk > dj then dk else dj),p'.set k (pk+1)),id,by omega,⟨by omega,?_,⟨by simp[hdl'],by simp[Qvu]⟩,Q86 hdb' (by split <;> omega),fun v hv=>?_,rfl⟩,Qzw rfl zFS zsy zLO rfl rfl hou⟩
    ·rw[Qae hk,hki];simp only[Q1q,Z3h,Qzv,Q8c hdj,Q8c hdk,Q8c hpk];rw[if_neg zoy]
    ·have:=Q86 (a:=0) (b:=(j:Int) * 1048576+(i+1:Nat)) (fun v hv=>by have:=hpb' v hv;omega) (show (0:Int)<=pk+1/\pk+1<=(j:Int) * 1048576+(i+1:Nat) by omega) v hv;exact this
  ·have Qvg:i=x.kids.length:=by simp at hb3;omega
   subst Qvg;rw[Z2j]at hki;refine zA ?_;refine zS (idxI tabOk rfl rfl rfl rfl rfl rfl rfl zuy) ?_;refine zS (loadI tabOk rfl rfl rfl rfl rfl rfl hdj) ?_;refine zS (Qr0 rfl rfl rfl (.inl ⟨rfl,rfl⟩) zI) ?_;refine zS (idxI tabOk rfl rfl rfl rfl rfl rfl rfl zuy) ?_;refine Qks tabOk rfl rfl rfl rfl rfl rfl rfl rfl (show j < d'.length by omega) ?_;refine zM ?_;refine cInv ⟨e.length - (j+1),(j+1,d'.set j (dj+1),p'),id,by omega,⟨by omega,?_,⟨by simp[hdl'],Qvu⟩,?_,fun v hv=>?_,rfl⟩,Qzw rfl zFS zsy zLO rfl rfl hou⟩
   ·rw[Qbe hx,hrun];simp only[Q24,hki,Z3m,Q8c hdj]
   ·exact Q86 (fun v hv=>by have:=hdb' v hv;simp only;omega) (by simp only;omega)
   ·have:=hpb' v hv;simp only;omega
 ·have hlt:j=e.length:=by simp at hb2;omega
  subst hlt;rw[Qe3]at hrun;rw[hrun]at hn;simp only at hn;obtain⟨N,hN⟩:∃N,e.length=N+1:=⟨e.length - 1,by omega⟩;refine zA ?_;refine Qre hΓ (α:=Nat) (fun i=>[(72,.one (int i)),(71,.one (int (e.map cEx).length)),(70,.one (.arr (.l 1) 1 0 (e.map cEx).length (e.map cEx).length)),(4,.one (.arr (.l 1) 1 0 (e.map cEx).length (e.map cEx).length)),(3,.one (.arr (.l 0) 1 0 (e.map cEx).length (e.map cEx).length)),(0,.one (.sl 5 (e.map cEx)))])
   (fun i=>⟨2,[(1,.cells (p.map int)),(0,.cells (d.map int))],ou⟩) (fun m i=>i<=e.length/\(∀q∈(List.range e.length).take i,Q2g e.length p q=false)/\m=e.length - i) (a0:=0) (ρ:=id) ⟨by omega,by simp,rfl⟩ (Qzw rfl zFS zsy zLO rfl rfl hou) fun m i hi=>?_
  obtain⟨hil,hno,rfl⟩:=hi;refine zA ?_;refine Qyl rfl (fun hb3=>?_) (fun hb3=>?_)
  ·have Qvg:i < e.length:=by simpa using hb3
   have hri:(List.range e.length)[i]?=some i:=by simp[Qvg]
   obtain⟨v,hv⟩:=Q00 (l:=p) (i:=i) zoy;have hod:Q2g e.length p i=!((v==1)==decide ((i:Int) < (e.length:Int) - 1)):=by unfold Q2g;rw[Q8c hv]
   refine zA ?_;refine zS (idxI tabOk rfl rfl rfl rfl rfl rfl rfl zuy) ?_;refine zS (loadI tabOk rfl rfl rfl rfl rfl rfl hv) ?_;refine zM ?_;refine Qyl rfl (fun hb4=>?_) (fun hb4=>?_)
   ·refine zA ?_;refine Qz0 rfl (Z46 ?_) zsy hou rfl;rw[hn,if_pos (Z00.2 ⟨i,by simp[Qvg],by rw[hod];simpa using hb4⟩)]
   ·refine zM ?_;exact cInv ⟨e.length - (i+1),i+1,id,by omega,⟨by omega,Q23 hno hri (by rw[hod];simpa using hb4),rfl⟩,Qzw rfl zFS zsy zLO rfl rfl hou⟩
  ·have Qvg:i=e.length:=by simp at hb3;omega
   have hany:¬(List.range e.length).any (Q2g e.length p)=true:=by rw[Z00];rintro⟨q,hq,hq2⟩;rw[hno q (by rw[Qvg,Z2k zsy];exact hq)]at hq2;cases hq2
   rw[if_neg hany]at hn;obtain⟨v,hv⟩:=Q00 (l:=d) (i:=N) zoy;have hgd:d.getD (e.length - 1) 0=v:=by rw[hN];exact Q8c hv
   rw[hgd]at hn;refine zM ?_;refine Qyz 89 rfl (y:=.one (int (N:Nat))) (.ofEq (by congr 3;simp;omega)) ?_;refine zS (idxI tabOk rfl rfl rfl rfl rfl rfl rfl zuy) ?_;refine zS (loadI tabOk rfl rfl rfl rfl rfl rfl hv) ?_;refine zA ?_;refine Qyl rfl (fun hb4=>?_) (fun hb4=>?_)
   ·refine zA ?_;refine Qz0 rfl (Z46 ?_) zsy hou rfl;rw[hn,if_pos (by simpa using hb4)]
   ·refine zA ?_;refine Qz0 rfl (Z46 ?_) zsy hou rfl;rw[hn,if_neg (by simpa using hb4)]
structure SetIs (S:List Int)(ck:Nat)(l:List (Nat×Int×Unit)):Prop where
 ex:∃f,IMOk f ck l/\∀k,(f k).isSome=S.contains k
theorem SetIs.nil:SetIs [] 0 []:=⟨_,IMOk.nil,fun k=>by simp⟩
theorem Qfs{f:Int->Option Unit}(h:∀k,(f k).isSome=S.contains k)(n:Int):∀k,(setF f n () k).isSome=(S++[n]).contains k:=fun k=>by
 unfold setF;by_cases e:n=k
 ·subst e;simp
 ·rw[if_neg e,h k];have:¬k=n:=fun h=>e h.symm;simp[this]
theorem dup_at{r:List Int}{n:Int}(h:S.contains n=true):Q4b (S++n::r)=true:=by apply Classical.byContradiction;intro hd;have:=(Q1o _).1 (by simpa using hd);rw[Z26]at this;exact this.2.2 n (by simpa using h) n zsy rfl
theorem Qbn{n:Int}(h:S.Nodup)(hn:S.contains n=false):(S++[n]).Nodup:=by rw[Z26];refine⟨h,by simp,fun a ha b hb e=>?_⟩;simp at hb;subst hb;subst e;simp at hn;exact hn ha
theorem Q36{l:List α}{a:α}(h:l[j]?=some a):l.take (j+1)=l.take j++[a]:=by rw[Z2g,h];rfl
theorem Qcm{l:List α}{a:α}(h:l[j]?=some a):l=l.take j++a::l.drop (j+1):=by have h1:=(Z0v.1 h);obtain⟨h2,h3⟩:=h1;rw[←h3,←Z07 h2,Z2h]
theorem Qob(hΓ:GI Γ)(e:List Ex)(he:okE e)(params:List Int)(hp:params.length<=1048576)(hbl:∀x∈e,(Q0r x).length<=4194304/\x.binds.length+(x.alts.flatMap (·.binds)).length<=4194304):
  APure Tryz.prog Γ 89 [.one (.sl 5 (e.map cEx)),.one (.sl 1 (params.map cI))] (.one (.lit (.bool (Q4b (params++Q08 e))))):=by
 have hel:=he.l;intro ou;refine zwk 68 Tryz.func89 fun hou=>?_;refine zA ?_;refine zS (AStep.makeMap rfl) ?_;refine zA ?_;refine Qre hΓ (α:=Nat×Nat×List (Nat×Int×Unit)) (fun a=>[(20,.one (int a.1)),(19,.one (int (params.map cI).length)),(18,.one (.sl 1 (params.map cI))),(5,.one (.mp (.l 0))),(0,.one (.sl 5 (e.map cEx)))])
  (fun a=>⟨1,[(0,.map a.2.1 (encI eU a.2.2))],ou⟩) (fun m a=>a.1<=params.length/\SetIs (params.take a.1) a.2.1 a.2.2/\(params.take a.1).Nodup/\m=params.length - a.1) (a0:=(0,0,[])) (ρ:=id) ⟨by omega,by simpa using SetIs.nil,by simp,rfl⟩
  (Qzw rfl zFS zsy zLO rfl rfl hou) fun m a hj=>?_
 obtain⟨j,ck,l⟩:=a;obtain⟨hjl,⟨f,hf,hfs⟩,hnd,rfl⟩:=hj;simp only at hjl hf hfs hnd;refine zA ?_;refine Qyl rfl (fun hb2=>?_) (fun hb2=>?_)
 ·have hlt:j < params.length:=by simpa using hb2
  obtain⟨n,hn⟩:=Q00 hlt;refine zA ?_;refine zS (zIA rfl rfl rfl zoy (Q0c hn)) ?_;refine zA ?_;refine zS (Qu3 eU (cm:=true) (v:=.agg []) rfl Z41 Z42 rfl rfl rfl zky zeroU hf (by cases f n <;> rfl)) ?_;refine zA ?_;refine zS (Qsg rfl zky) ?_;refine AOps.step rfl rfl (Qsh rfl zky rfl rfl rfl) ?_;refine zA ?_;refine Qyl rfl (fun hb3=>?_) (fun hb3=>?_)
  ·refine zA ?_;refine Qz0 rfl (Z46 ?_) zsy hou rfl;rw[hfs n]at hb3;have hd:=dup_at (r:=params.drop (j+1)++Q08 e) hb3;rw[←Z03,←Z01,←Qcm hn]at hd;rw[hd]
  ·rw[hfs n]at hb3;refine zA ?_;refine zS (Qsf rfl Tryz.underlying198 zky) ?_;refine Qu2 eU (v:=()) rfl rfl rfl Z41 Z42 rfl rfl rfl rfl hf fun ck' l' hf'=>?_;refine zM ?_;exact cInv ⟨params.length - (j+1),(j+1,ck',l'),id,by omega,⟨by omega,⟨_,hf',by rw[Q36 hn];exact Qfs hfs n⟩,by rw[Q36 hn];exact Qbn hnd hb3,rfl⟩,Qzw rfl zFS zsy zLO rfl rfl hou⟩
 have hlt:j=params.length:=by simp at hb2;omega
 subst hlt;rw[Z2j]at hfs hnd;refine zA ?_;refine Qre hΓ (α:=Nat×Nat×List (Nat×Int×Unit)) (fun a=>[(37,.one (int a.1)),(36,.one (int (e.map cEx).length)),(35,.one (.sl 5 (e.map cEx))),(5,.one (.mp (.l 0)))])
  (fun a=>⟨1,[(0,.map a.2.1 (encI eU a.2.2))],ou⟩) (fun m a=>a.1<=e.length/\SetIs (params++Q08 (e.take a.1)) a.2.1 a.2.2/\(params++Q08 (e.take a.1)).Nodup/\m=e.length - a.1) (a0:=(0,ck,l)) (ρ:=id) ⟨by omega,⟨f,hf,by simpa[Q08]using hfs⟩,by simpa[Q08]using hnd,rfl⟩
  (Qzw rfl zFS zsy zLO rfl rfl hou) fun m a hj=>?_
 clear hf hfs hnd hb2 hjl f;obtain⟨j,ck,l⟩:=a;obtain⟨hjl,⟨f,hf,hfs⟩,hnd,rfl⟩:=hj;simp only at hjl hf hfs hnd;refine zA ?_;refine Qyl rfl (fun hb2=>?_) (fun hb2=>?_)
 ·have hlt:j < e.length:=by simpa using hb2
  obtain⟨x,hx⟩:=Q00 hlt;have hxm:=Z1y hx;have hxo:=he.x x hxm;have hxl:=hbl x hxm;have hab:Q08 (e.take (j+1))=Q08 (e.take j)++Q0r x:=by rw[Q36 hx];simp[Q08]
  have hall:Q08 e=Q08 (e.take j)++(Q0r x++Q08 (e.drop (j+1))):=by
   conv=>lhs;rw[Qcm hx]
   simp[Q08]
  refine zA ?_;refine zS (zIA rfl rfl rfl zoy (Q0c hx)) ?_;refine zA ?_;refine Qyx (.l 2) 49 rfl rfl ?_;refine Qyz 49 rfl (y:=.one (.box (cTr (.mk x.op 0 x.binds [] x.alts)))) (.one (Z45 ?_)) ?_
  ·exact .cons (.refl _) (.cons (.refl _) (.cons (.refl _) (.cons (.nilS 1) (.cons (.refl _) .nil))))
  have hcall:=Qce hΓ (.mk x.op 0 x.binds [] x.alts) (by simpa[Q8k]using hxl.2) hxo.a;refine zca hΓ hcall hou ?_;have heb:Q0s x.op x.binds x.alts=Q0r x:=rfl;simp only[Qtu,Qtw,Qty,heb];refine zA ?_;refine Qre hΓ (α:=Nat×Nat×List (Nat×Int×Unit)) (fun a=>[(52,.one (int a.1)),(51,.one (int ((Q0r x).map cI).length)),(50,.one (.sl 1 ((Q0r x).map cI))),(37,.one (int j)),(36,.one (int (e.map cEx).length)),(35,.one (.sl 5 (e.map cEx))),(5,.one (.mp (.l 0)))])
   (fun a=>⟨1,[(0,.map a.2.1 (encI eU a.2.2))],ou⟩) (fun m a=>a.1<=(Q0r x).length/\SetIs (params++Q08 (e.take j)++(Q0r x).take a.1) a.2.1 a.2.2/\(params++Q08 (e.take j)++(Q0r x).take a.1).Nodup/\m=(Q0r x).length - a.1) (a0:=(0,ck,l)) (ρ:=id) ⟨by omega,⟨f,hf,by simpa using hfs⟩,by simpa using hnd,rfl⟩
   (Qzw rfl zFS zsy zLO rfl rfl hou) fun m a hi=>?_
  clear hf hfs hnd f;obtain⟨i,ck,l⟩:=a;obtain⟨hil,⟨f,hf,hfs⟩,hnd,rfl⟩:=hi;simp only at hil hf hfs hnd;refine zA ?_;refine Qyl rfl (fun hb3=>?_) (fun hb3=>?_)
  ·have Qvg:i < (Q0r x).length:=by simpa using hb3
   obtain⟨n,hn⟩:=Q00 Qvg;refine zA ?_;refine zS (zIA rfl rfl rfl zoy (Q0c hn)) ?_;refine zA ?_;refine zS (Qu3 eU (cm:=true) (v:=.agg []) rfl Z41 Z42 rfl rfl rfl zky zeroU hf (by cases f n <;> rfl)) ?_;refine zA ?_;refine zS (Qsg rfl zky) ?_;refine AOps.step rfl rfl (Qsh rfl zky rfl rfl rfl) ?_;refine zA ?_;refine Qyl rfl (fun hb4=>?_) (fun hb4=>?_)
   ·refine zA ?_;refine Qz0 rfl (Z46 ?_) zsy hou rfl;rw[hfs n]at hb4;have hd:=dup_at (r:=(Q0r x).drop (i+1)++Q08 (e.drop (j+1))) hb4;rw[←Z03,Z01 (params++_),←Z01 ((Q0r x).take i),←Qcm hn,Z01,←hall]at hd;rw[hd]
   ·rw[hfs n]at hb4;refine zA ?_;refine zS (Qsf rfl Tryz.underlying198 zky) ?_;refine Qu2 eU (v:=()) rfl rfl rfl Z41 Z42 rfl rfl rfl rfl hf fun ck' l' hf'=>?_;refine zM ?_;exact cInv ⟨(Q0r x).length - (i+1),(i+1,ck',l'),id,by omega,⟨by omega,⟨_,hf',by rw[Q36 hn,←Z01];exact Qfs hfs n⟩,by rw[Q36 hn,←Z01];exact Qbn hnd hb4,rfl⟩,Qzw rfl zFS zsy zLO rfl rfl hou⟩
  ·have Qvg:i=(Q0r x).length:=by simp at hb3;omega
   subst Qvg;rw[Z2j,Z01,←hab]at hfs hnd;refine zM ?_;exact cInv ⟨e.length - (j+1),(j+1,ck,l),id,by omega,⟨by omega,⟨_,hf,hfs⟩,hnd,rfl⟩,Qzw rfl zFS zsy zLO rfl rfl hou⟩
 ·have hlt:j=e.length:=by simp at hb2;omega
  subst hlt;rw[Z2j]at hnd;refine zA ?_;refine Qz0 rfl (Z46 ?_) zsy hou rfl;rw[(Q1o _).2 hnd]
@[simp] theorem ids_takeA (p:Abs.Id->Prop) (n:Nat) (l:List Alt):idsS p (List.take n (l.map cAlt)):=by rw[←Z1k];exact Qeu p _
@[simp] theorem ids_takeI (p:Abs.Id->Prop) (n:Nat) (l:List Int):idsS p (List.take n (l.map cI)):=by rw[←Z1k];exact Qda p _
@[simp] theorem renS_nil (ρ:Nat->Nat):renS ρ []=[]:=rfl
def Q2v (ts:List Tr)(n:Nat):List AC:=ts.map (fun t=>.box (cTr t))++List.replicate (n - ts.length) (.lit (.pointer none))
theorem Qjj(n:Nat):Q2v [] n=List.replicate n (.lit (.pointer none)):=by simp[Q2v]
theorem Qjk(h:ts.length<=n):(Q2v ts n).length=n:=by simp[Q2v];omega
theorem Q85{k:Nat}{t:Tr}(h:ts[k]?=some t):(Q2v ts n)[k]?=some (.box (cTr t)):=by have hk:=(Z0v.1 h).1;unfold Q2v;rw[Z0p (by simpa using hk)];simp[h]
theorem Qji(h:ts.length < n)(t:Tr):(Q2v ts n).set ts.length (.box (cTr t))=Q2v (ts++[t]) n:=by unfold Q2v;rw[Z2d _ _ zsy];simp only[Z16,Z37,Z1e,Z1g,Z1j,Z01,Z12,Z1b];congr 1;rw[show n - ts.length=(n - (ts.length+1))+1 by omega,Z2b];rfl
theorem Qev(p:Abs.Id->Prop):∀ts:List Tr,idsL p (ts.map fun t=>AC.box (cTr t))
 |[]=>by simp
 |t::ts=>by simp[Qev p ts]
theorem Q7e{p:Abs.Id->Prop}:∀{a b:List AC},idsL p a->idsL p b->idsL p (a++b)
 |[],_,_,h=>h
 |_::_,_,h,k=>⟨h.1,Q7e h.2 k⟩
@[simp] theorem ids_nodesC (p:Abs.Id->Prop) (ts:List Tr) (n:Nat):idsL p (Q2v ts n):=Q7e (Qev p ts) (Qid p _ _)
def kidsT (ts:List Tr)(ks:List Int):List Tr:=ks.map fun k=>ts.getD k.toNat default
theorem Qjn(h:ks[i]?=some k):kidsT ts (ks.take (i+1))=kidsT ts (ks.take i)++[ts.getD k.toNat default]:=by simp[kidsT,Z2g,h]
theorem Qlw(ts:List Tr)(x:Ex):Q3k ts x=.mk x.op x.n x.binds (kidsT ts x.kids) x.alts:=rfl
theorem Q0h{l:List α}{a:α}(h:l[j]?=some a):l.take (j+1)=l.take j++[a]:=by rw[Z2g,h];rfl
theorem Qo3(hΓ:GI Γ)(e:List Ex)(he:okE e)(hin:Q0z e)(hne:e≠[]):APure Tryz.prog Γ 25 [.one (.sl 5 (e.map cEx))] (.one (.box (cTr (grow e)))):=by
 have hel:=he.l;intro ou;refine zwk 85 Tryz.func25 fun hou=>?_;refine zA ?_;have hb:ti74.bytes * (e.map cEx).length<=281474976710656:=by simp;show 8 * _<=_;omega
 have hb2:(e.map cEx).length<=281474976710656:=by simp;omega
 refine zS (Qsa tabOk rfl rfl rfl rfl rfl rfl rfl rfl hb hb2) ?_;refine zA ?_;refine Qre hΓ (α:=Nat) (fun j=>[(16,.one (int j)),(15,.one (int (e.map cEx).length)),(14,.one (.sl 5 (e.map cEx))),(3,.one (.arr (.l 0) 1 0 (e.map cEx).length (e.map cEx).length)),(0,.one (.sl 5 (e.map cEx)))])
  (fun j=>⟨1,[(0,.cells (Q2v (growL (e.take j)) (e.map cEx).length))],ou⟩) (fun m j=>j<=e.length/\m=e.length - j) (a0:=0) (ρ:=id) ⟨by omega,rfl⟩
  (Qzw rfl zFS zsy (Z2m rfl (by rw[Qyr _ _ zsy];show AObj.cells (List.replicate _ _)=AObj.cells (Q2v [] _);rw[Qjj]) rfl zsy .nil) rfl rfl hou) fun m j hj=>?_
 obtain⟨hjl,rfl⟩:=hj;refine zA ?_;refine Qyl rfl (fun hb2=>?_) (fun hb2=>?_)
 ·have hlt:j < e.length:=by simpa using hb2
  obtain⟨x,hx⟩:=Q00 hlt;have hxo:=he.x x (Z1y hx);have hxk:=hxo.k;have hxa:=hxo.a;have Qxo:=hin j x hx;have hgl:(growL (e.take j)).length=j:=by rw[Q1v];simp;omega
  refine zA ?_;refine zS (zIA rfl rfl rfl zoy (Q0c hx)) ?_;refine zA ?_;have hcl:=Q4g (Γ:=Γ) x.binds hxo.b;refine Qu1 (va:=.one (.ptr (.l 2) 0)) (σ1:=(((St.mk 1 [(0,.cells (Q2v (growL (e.take j)) (e.map cEx).length))] ou).push (.cells (ti62.zero.map .lit))).set (.l 1) (.cells (cEx x))).push (.cells [int x.op,int x.n,.sl 1 (x.binds.map cI),.lit (.slice none 0 0),.lit (.slice none 0 0)]))
   tabOk 9 8 [(6,.one (.sl 1 (x.binds.map cI)))] follows zky rfl rfl rfl rfl rfl rfl rfl (Qzr tabOk rfl) ?_ ?_ ?_
  ·exact .call hΓ hcl hou zsy rfl rfl rfl rfl rfl rfl .nil
  ·exact .call hΓ hcl hou zsy rfl rfl rfl rfl rfl rfl .nil
  refine zA ?_;refine Qyq 2 3 74 1 rfl rfl ?_;refine Qre hΓ (α:=Nat) (fun i=>[(33,.one (int i)),(32,.one (int (x.kids.map cI).length)),(31,.one (.sl 1 (x.kids.map cI))),(6,.one (.ptr (.l 2) 0)),(5,.one (.ptr (.l 1) 0)),(4,.one (int j)),(16,.one (int j)),(15,.one (int (e.map cEx).length)),(14,.one (.sl 5 (e.map cEx))),(3,.one (.arr (.l 0) 1 0 (e.map cEx).length (e.map cEx).length)),(0,.one (.sl 5 (e.map cEx)))])
   (fun i=>⟨4,[(3,.tok 74 1 i),(2,.cells [int x.op,int x.n,.sl 1 (x.binds.map cI),.gs 1 ((kidsT (growL (e.take j)) (x.kids.take i)).map cB) (.l 3),.lit (.slice none 0 0)]),(1,.cells (cEx x)),(0,.cells (Q2v (growL (e.take j)) (e.map cEx).length))],ou⟩)
   (fun m i=>i<=x.kids.length/\m=x.kids.length - i) (a0:=0) (ρ:=id) ⟨by omega,rfl⟩ (Qzw rfl zFS zsy ?_ rfl rfl hou) fun m i hi=>?_
  ·repeat' first|exact Z2n|refine zlc ?_|refine zld ?_ ?_|rfl
   all_goals (simp[AObj.ren,renL,AC.ren,kidsT];rfl)
  obtain⟨hil,rfl⟩:=hi;refine zA ?_;refine Qyl rfl (fun hb3=>?_) (fun hb3=>?_)
  ·have Qvg:i < x.kids.length:=by simpa using hb3
   obtain⟨k,hk⟩:=Q00 Qvg;have hkb:=Qxo k (Z1y hk);obtain⟨k',rfl⟩:∃k':Nat,k=k':=⟨k.toNat,by omega⟩;obtain⟨tk,htk⟩:=Q00 (l:=growL (e.take j)) (i:=k') zoy;have htd:(growL (e.take j)).getD (k':Int).toNat default=tk:=by rw[Qzv,Z0o,htk];rfl
   have hks:=Qjn (ts:=growL (e.take j)) hk;rw[htd]at hks;have hkl:((kidsT (growL (e.take j)) (x.kids.take i)).map cB).length=i:=by simp[kidsT];omega
   refine zA ?_;refine zS (zIA rfl rfl rfl zoy (Q0c hk)) ?_;refine zA ?_;refine Qu1 (va:=.one (.gs 1 ((kidsT (growL (e.take j)) (x.kids.take i)).map cB++[cB tk]) (.l 4))) (σ1:=((St.mk 4 [(3,.tok 74 1 i),(2,.cells [int x.op,int x.n,.sl 1 (x.binds.map cI),.gs 1 ((kidsT (growL (e.take j)) (x.kids.take i)).map cB) (.l 3),.lit (.slice none 0 0)]),(1,.cells (cEx x)),(0,.cells (Q2v (growL (e.take j)) (e.map cEx).length))] ou).set (.l 3) .dead).push (.tok 74 1 ((kidsT (growL (e.take j)) (x.kids.take i)).map cB++[cB tk]).length))
    tabOk 11 10 [(7,.one (.ptr (.l 0) k')),(8,.one (.box (cTr tk)))] follows zky rfl rfl rfl rfl rfl rfl rfl ?_ ?_ ?_ ?_
   ·refine Qzs rfl (Qz1 (s:=1) (es:=(kidsT (growL (e.take j)) (x.kids.take i)).map cB) (news:=[cB tk]) (ti:=ti117) (σ:=⟨4,[(3,.tok 74 1 i),(2,.cells [int x.op,int x.n,.sl 1 (x.binds.map cI),.gs 1 ((kidsT (growL (e.take j)) (x.kids.take i)).map cB) (.l 3),.lit (.slice none 0 0)]),(1,.cells (cEx x)),(0,.cells (Q2v (growL (e.take j)) (e.map cEx).length))],ou⟩) tabOk rfl rfl rfl rfl rfl rfl (Qrm _ 74 1 ((kidsT (growL (e.take j)) (x.kids.take i)).map cB) (.l 3) rfl hkl.symm) (.sl _ _) rfl ?_ ?_)
    ·rw[hkl];show (i+1) * 8<=_;omega
    ·rw[hkl];show i+1<=_;omega
   ·refine .step rfl (zHP (idxI tabOk rfl rfl rfl rfl rfl rfl rfl zuy)) ?_;exact .step rfl (zHP (zLD rfl rfl rfl (Q85 htk))) .nil
   ·refine .step rfl (zHP (idxI tabOk rfl rfl rfl rfl rfl rfl rfl zuy)) ?_;exact .step rfl (zHP (zLD rfl rfl rfl (Q85 htk))) .nil
   refine zM ?_;refine cInv ⟨x.kids.length - (i+1),i+1,fun k=>if k=3 then 4 else k,by omega,⟨by omega,rfl⟩,Qzw rfl zFS zsy ?_ rfl rfl hou⟩;repeat' first|exact Z2n|refine zlc ?_|refine zld ?_ ?_|rfl
   ·simp only[AObj.ren,Z12,hkl];rfl
   ·rw[hks];simp only[AObj.ren,renL,AC.ren,Q3v,Qct];rw[Z1e];rfl
  have Qvg:i=x.kids.length:=by simp at hb3;omega
  subst Qvg;rw[Z2j];refine zA ?_;refine Qyq 2 4 51 2 rfl rfl ?_;refine Qre hΓ (α:=Nat) (fun i=>[(54,.one (int i)),(53,.one (int (x.alts.map cAlt).length)),(52,.one (.sl 2 (x.alts.map cAlt))),(6,.one (.ptr (.l 2) 0)),(4,.one (int j)),(16,.one (int j)),(15,.one (int (e.map cEx).length)),(14,.one (.sl 5 (e.map cEx))),(3,.one (.arr (.l 0) 1 0 (e.map cEx).length (e.map cEx).length)),(0,.one (.sl 5 (e.map cEx)))])
   (fun i=>⟨5,[(4,.tok 51 2 i),(2,.cells [int x.op,int x.n,.sl 1 (x.binds.map cI),.gs 1 ((kidsT (growL (e.take j)) x.kids).map cB) (.l 3),.gs 2 ((x.alts.take i).map cAlt) (.l 4)]),(0,.cells (Q2v (growL (e.take j)) (e.map cEx).length))],ou⟩)
   (fun m i=>i<=x.alts.length/\m=x.alts.length - i) (a0:=0) (ρ:=id) ⟨by omega,rfl⟩ (Qzw rfl zFS zsy ?_ rfl rfl hou) fun m i hi=>?_
  ·repeat' first|exact Z2n|refine zlc ?_|refine zld ?_ ?_|rfl
   all_goals (simp[AObj.ren,renL,AC.ren];exact⟨rfl,rfl⟩)
  obtain⟨hil,rfl⟩:=hi;refine zA ?_;refine Qyl rfl (fun hb3=>?_) (fun hb3=>?_)
  ·have Qvg:i < x.alts.length:=by simpa using hb3
   obtain⟨a,ha⟩:=Q00 Qvg;have hal:((x.alts.take i).map cAlt).length=i:=by simp;omega
   have hca:=Q4g (Γ:=Γ) a.binds (hxo.ab a (Z1y ha));refine zA ?_;refine zS (zIA rfl rfl rfl zoy (Q0c ha)) ?_;refine zA ?_;refine Qu1 (va:=.one (.gs 2 ((x.alts.take i).map cAlt++[cAlt a]) (.l 6))) (σ1:=((((St.mk 5 [(4,.tok 51 2 i),(2,.cells [int x.op,int x.n,.sl 1 (x.binds.map cI),.gs 1 ((kidsT (growL (e.take j)) x.kids).map cB) (.l 3),.gs 2 ((x.alts.take i).map cAlt) (.l 4)]),(0,.cells (Q2v (growL (e.take j)) (e.map cEx).length))] ou).push (.cells (ti51.zero.map .lit))).set (.l 5) (.cells (cAlt a))).set (.l 4) .dead).push (.tok 51 2 ((x.alts.take i).map cAlt++[cAlt a]).length))
    tabOk 13 12 [(9,.one (.sl 1 (a.binds.map cI)))] follows zky rfl rfl rfl rfl rfl rfl rfl ?_ ?_ ?_ ?_
   ·refine Qzs rfl (Qz1 (s:=2) (es:=(x.alts.take i).map cAlt) (news:=[cAlt a]) (ti:=ti52) (σ:=(((St.mk 5 [(4,.tok 51 2 i),(2,.cells [int x.op,int x.n,.sl 1 (x.binds.map cI),.gs 1 ((kidsT (growL (e.take j)) x.kids).map cB) (.l 3),.gs 2 ((x.alts.take i).map cAlt) (.l 4)]),(0,.cells (Q2v (growL (e.take j)) (e.map cEx).length))] ou).push (.cells (ti51.zero.map .lit))).set (.l 5) (.cells (cAlt a)))) tabOk rfl rfl rfl rfl rfl rfl (Qrm _ 51 2 ((x.alts.take i).map cAlt) (.l 4) rfl hal.symm) (.sl _ _) rfl ?_ ?_)
    ·rw[hal];show (i+1) * 32<=_;omega
    ·rw[hal];show i+1<=_;omega
   ·exact .call hΓ hca hou zsy rfl rfl rfl rfl rfl rfl .nil
   ·exact .call hΓ hca hou zsy rfl rfl rfl rfl rfl rfl .nil
   refine zM ?_;refine cInv ⟨x.alts.length - (i+1),i+1,fun k=>if k=4 then 6 else k,by omega,⟨by omega,rfl⟩,Qzw rfl zFS zsy ?_ rfl rfl hou⟩;repeat' first|exact Z2n|refine zlc ?_|refine zld ?_ ?_|rfl
   ·simp only[AObj.ren,Z12,hal];rfl
   ·rw[Q0h ha];simp only[AObj.ren,renL,AC.ren,Q3v,Qct,Q3w];rw[Z1e];rfl
  have Qvg:i=x.alts.length:=by simp at hb3;omega
  subst Qvg;rw[Z2j];refine zA ?_;refine zS (idxI tabOk rfl rfl rfl rfl rfl rfl rfl zuy) ?_;refine Qyx (.l 2) 76 rfl rfl ?_;refine Qyz 76 rfl (y:=.one (.box (cTr (Q3k (growL (e.take j)) x)))) (.one (Z45 ?_)) ?_
  ·rw[Qlw];exact .cons (.refl _) (.cons (.refl _) (.cons (.refl _) (.cons (.gsE (Q0a _).symm) (.cons (.gsE rfl) .nil))))
  refine Qyy tabOk rfl rfl rfl rfl rfl rfl rfl rfl (by rw[Qjk (by simp[hgl];omega)];simp;omega) ?_;have hst:=Qji (ts:=growL (e.take j)) (n:=(e.map cEx).length) (by simp[hgl];omega) (Q3k (growL (e.take j)) x);rw[hgl,←Q2p,←Q0h hx]at hst;rw[hst];refine zM ?_;exact cInv ⟨e.length - (j+1),j+1,id,by omega,⟨by omega,rfl⟩,Qzw rfl zFS zsy zLO rfl rfl hou⟩
 ·have hlt:j=e.length:=by simp at hb2;omega
  subst hlt;rw[Z2j];obtain⟨N,hN⟩:∃N,e.length=N+1:=⟨e.length - 1,by have:=Z18.2 hne;omega⟩;obtain⟨t,ht⟩:=Q00 (l:=growL e) (i:=N) (by rw[Q1v];omega);have hgt:grow e=t:=by unfold grow;rw[hN,Nat.add_sub_cancel,Z0o,ht];rfl
  refine zM ?_;refine Qyz 82 rfl (y:=.one (int (N:Nat))) (.ofEq (by congr 3;simp;omega)) ?_;refine zS (idxI tabOk rfl rfl rfl rfl rfl rfl rfl zuy) ?_;refine zS (zLD rfl rfl rfl (Q85 ht)) ?_;refine zA ?_;refine Qz0 rfl (Z46 ?_) zsy hou rfl;rw[hgt]
end Go.Proofs.YtlmokgooijbcdaaGreatDoor
namespace Go.CoreX
theorem Q4v(t:Tr):∀(l:List Tr)(out:List Ex),Q03 out (l++[t])=(listT (Q03 out l).1 t,(Q03 out l).2++[((listT (Q03 out l).1 t).length:Int) - 1])
 |[],out=>by simp[Q03]
 |a::l,out=>by have:=Q4v t l (listT out a);simp only[Z03,Q03,this]
mutual
theorem Qpg:∀(t:Tr)(out:List Ex),out.length < (listT out t).length
 |.mk o n b k a,out=>by have:=Q3a k out;simp only[listT,Z12,Z1b];omega
theorem Q3a:∀(l:List Tr)(out:List Ex),out.length<=(Q03 out l).1.length
 |[],out=>by simp[Q03]
 |t::l,out=>by have h1:=Qpg t out;have h2:=Q3a l (listT out t);simp only[Q03];omega
end
theorem Q32:∀(l r:List Tr)(out:List Ex),(Q03 out (l++r)).1=(Q03 (Q03 out l).1 r).1
 |[],r,out=>by simp[Q03]
 |a::l,r,out=>by simp only[Z03,Q03,Q32 l r]
theorem Q3m:∀(l:List Tr)(out:List Ex),(Q03 out l).2.length=l.length
 |[],out=>by simp[Q03]
 |a::l,out=>by simp[Q03,Q3m l]
-- The lists of a tree are not too long.
mutual
def okT:Tr->Prop
 |.mk _ _ b k a=>b.length<=1048576/\k.length<=1048576/\a.length<=1048576/\((∀x∈a,x.binds.length<=1048576)/\b.length+(a.flatMap (·.binds)).length<=4194304)/\okTs k
def okTs:List Tr->Prop
 |[]=>True
 |t::l=>okT t/\okTs l
end
theorem Q34:∀{l:List Tr},okTs l↔∀t∈l,okT t
 |[]=>by simp[okTs]
 |t::l=>by simp[okTs,Q34 (l:=l)]
end Go.CoreX
namespace Go.Proofs.YtlmokgooijbcdaaGreatDoor
variable {Γ:List (Nat×List AC)}
abbrev fnW (kw ko:Nat):AC:=.fn (.func 66) [] [.ptr (.o kw) 0,.ptr (.o ko) 0]
def ouS (ou:Outer)(ko kt:Nat)(es:List (List AC)):Outer:=updO (updO ou ko (.cells [.gs 5 es (.o kt)])) kt (.tok 62 5 es.length)
theorem ouS_o(h:ko≠kt)(es:List (List AC)):ouS ou ko kt es ko=some (.cells [.gs 5 es (.o kt)]):=by unfold ouS;rw[Q02 _ (Z3d h),Q04]
theorem ouS_t(ou:Outer)(ko kt:Nat)(es:List (List AC)):ouS ou ko kt es kt=some (.tok 62 5 es.length):=by unfold ouS;rw[Q04]
theorem ouS_w{k:Nat}(h:k≠ko)(h2:k≠kt)(es:List (List AC)):ouS ou ko kt es k=ou k:=by unfold ouS;rw[Q02 _ (Z3d h2),Q02 _ (Z3d h)]
theorem Q3j(h:OuOk ou)(he:idsS isO es):OuOk (ouS ou ko kt es):=by
 intro k o hk;unfold ouS at hk;by_cases e:kt=k
 ·subst e;rw[Q04]at hk;cases hk;trivial
 ·rw[Q02 _ e]at hk;by_cases e2:ko=k
  ·subst e2;rw[Q04]at hk;cases hk;exact⟨⟨trivial,he⟩,trivial⟩
  ·rw[Q02 _ e2]at hk;exact h k o hk
def ListOk (Γ:List (Nat×List AC))(t:Tr):Prop:=∀(ou:Outer)(kw ko kt:Nat)(out:List Ex),OuOk ou->ou kw=some (.cells [fnW kw ko])->ou ko=none->ou kt=none->ko≠kt->(listT out t).length<=1099511627776->
 AFn Tryz.prog Γ 66 [.one (.box (cTr t)),.one (.ptr (.o kw) 0),.one (.ptr (.o ko) 0)] (ouS ou ko kt (out.map cEx)) (fun r ou'=>r=.one (int (((listT out t).length:Int) - 1))/\∃kt',ou kt'=none/\ko≠kt'/\ou'=ouS ou ko kt' ((listT out t).map cEx))
theorem Qi6(hΓ:GI Γ):∀t:Tr,okT t->ListOk Γ t
 |.mk o n b ks a,hok=>by
  obtain⟨hb,hk,ha,⟨hab,_⟩,hks⟩:=hok;have ih:∀t∈ks,ListOk Γ t:=fun t ht=>Qi6 hΓ t (Q34.1 hks t ht);intro ou kw ko kt out Qvn hw ho ht hne hsz;have hwo:kw≠ko:=fun e=>by rw[e,ho]at hw;cases hw
  have Qwj:(Q03 out ks).1.length < 1099511627776:=by simp only[listT,Z12,Z1b]at hsz;omega
  refine zwk 70 Tryz.func66 fun hou=>?_;have hcl:=Q4g (Γ:=Γ) b hb;refine zA ?_;refine Qs0 tabOk 15 14 [(12,.one (.sl 1 (b.map cI)))] follows zky rfl rfl rfl rfl rfl rfl rfl rfl rfl ?_ ?_ ?_
  ·exact .call hΓ hcl hou zsy rfl rfl rfl rfl rfl rfl .nil
  ·exact .call hΓ hcl hou zsy rfl rfl rfl rfl rfl rfl .nil
  refine zA ?_;refine Qyq 0 3 3 1 rfl rfl ?_;refine Qre hΓ (α:=Nat×Nat) (fun c=>[(29,.one (int c.1)),(28,.one (int (Q0y ks).length)),(27,.one (.sl 1 (Q0y ks))),(5,.one (.ptr (.l 0) 0)),(2,.one (.ptr (.o ko) 0)),(1,.one (.ptr (.o kw) 0)),(0,.one (.box (cTr (.mk o n b ks a))))])
   (fun c=>⟨2,[(1,.tok 3 1 c.1),(0,.cells [int o,int n,.sl 1 (b.map cI),.gs 1 ((Q03 out (ks.take c.1)).2.map cI) (.l 1),.lit (.slice none 0 0)])],ouS ou ko c.2 ((Q03 out (ks.take c.1)).1.map cEx)⟩)
   (fun m c=>c.1<=ks.length/\(ou c.2=none/\ko≠c.2)/\m=ks.length - c.1) (a0:=(0,kt)) (ρ:=id) ⟨by omega,⟨ht,hne⟩,rfl⟩ (Qzw rfl zFS zsy ?_ rfl (by simp[Q03];rfl) hou) fun m c hi=>?_
  ·repeat' first|exact Z2n|refine zlc ?_|refine zld ?_ ?_|rfl
   all_goals (simp[AObj.ren,renL,AC.ren,Q03];rfl)
  obtain⟨i,kt⟩:=c;obtain⟨hil,⟨ht,hne⟩,rfl⟩:=hi;simp only at hil ht hne;have hwt:kw≠kt:=fun e=>by rw[e,ht]at hw;cases hw
  have hle:(Q03 out (ks.take i)).1.length<=(Q03 out ks).1.length:=by have:=Q32 (ks.take i) (ks.drop i) out;rw[Z2h]at this;rw[this];exact Q3a _ _
  refine zA ?_;refine Qyl rfl (fun hb3=>?_) (fun hb3=>?_)
  ·have Qvg:i < ks.length:=by simpa using hb3
   obtain⟨t,ht2⟩:=Q00 Qvg;have hsn:=Q4v t (ks.take i) out;rw[←Q0h ht2]at hsn;have hle2:(listT (Q03 out (ks.take i)).1 t).length<=1099511627776:=by have:=Q32 (ks.take (i+1)) (ks.drop (i+1)) out;rw[Z2h]at this;have h2:=Q3a (ks.drop (i+1)) (Q03 out (ks.take (i+1))).1;rw[←this,hsn]at h2;simp only at h2;omega
   have hcall:=ih t (Z1y ht2) ou kw ko kt (Q03 out (ks.take i)).1 Qvn hw ho ht hne hle2;have Qw5:((Q03 out (ks.take i)).2.map cI).length=i:=by rw[Z16,Q3m];simp;omega
   refine zA ?_;refine zS (zIA rfl rfl rfl zoy (Q1z ht2)) ?_;refine zA ?_;refine Qsq (va:=.one (int (((listT (Q03 out (ks.take i)).1 t).length:Int) - 1))) tabOk 6 4 [(2,.one (fnW kw ko))]
    (fun σ=>∃kt',ou kt'=none/\ko≠kt'/\σ=⟨2,[(1,.tok 3 1 i),(0,.cells [int o,int n,.sl 1 (b.map cI),.gs 1 ((Q03 out (ks.take i)).2.map cI) (.l 1),.lit (.slice none 0 0)])],ouS ou ko kt' ((listT (Q03 out (ks.take i)).1 t).map cEx)⟩)
    follows zky rfl rfl rfl rfl rfl ?_ rfl ⟨rfl,rfl⟩ rfl ?_ ?_ ?_ ?_
   ·rintro σ ⟨kt',h1,h2,rfl⟩;rfl
   ·refine Q1m.call hΓ rfl rfl rfl rfl zsy (Q3j Qvn zsy) hcall fun r ou' hq _ _=>?_;obtain⟨rfl,kt',h1,h2,rfl⟩:=hq;exact⟨rfl,kt',h1,h2,rfl⟩
   ·exact .step rfl (zHP (zLD rfl rfl (ouS_w hwo hwt _ |>.trans hw) rfl)) .nil
   ·rintro σ ⟨kt',h1,h2,rfl⟩;have Qy2:kw≠kt':=fun e=>by rw[e,h1]at hw;cases hw
    exact .step rfl (zHP (zLD rfl rfl (ouS_w hwo Qy2 _ |>.trans hw) rfl)) .nil
   rintro σ ⟨kt',h1,h2,rfl⟩;refine zA ?_;refine AOps.app tabOk rfl rfl rfl rfl rfl rfl rfl rfl rfl (Qrm _ _ _ _ _ (by rfl) Qw5.symm) (.sl _ _) rfl ?_ ?_ ?_
   ·rw[Qw5];show (i+1) * 8<=_;omega
   ·rw[Qw5];show i+1<=_;omega
   refine zM ?_;refine cInv ⟨ks.length - (i+1),(i+1,kt'),fun k=>if k=1 then 2 else k,by omega,⟨by omega,⟨h1,h2⟩,rfl⟩,Qzw rfl zFS zsy ?_ rfl (by simp only[hsn];rfl) (Q3j Qvn zsy)⟩;repeat' first|exact Z2n|refine zlc ?_|refine zld ?_ ?_|rfl
   ·simp only[AObj.ren,Z12,Qw5];rfl
   ·simp only[hsn];simp only[AObj.ren,renL,AC.ren,Q3v];rw[Z1e];rfl
  have Qvg:i=ks.length:=by simp at hb3;omega
  subst Qvg;rw[Z2j]at *;refine zA ?_;refine Qyq 0 4 51 2 rfl rfl ?_;refine Qre hΓ (α:=Nat) (fun i=>[(47,.one (int i)),(46,.one (int (a.map cAlt).length)),(45,.one (.sl 2 (a.map cAlt))),(5,.one (.ptr (.l 0) 0)),(2,.one (.ptr (.o ko) 0)),(1,.one (.ptr (.o kw) 0)),(0,.one (.box (cTr (.mk o n b ks a))))])
   (fun i=>⟨3,[(2,.tok 51 2 i),(0,.cells [int o,int n,.sl 1 (b.map cI),.gs 1 ((Q03 out ks).2.map cI) (.l 1),.gs 2 ((a.take i).map cAlt) (.l 2)])],ouS ou ko kt ((Q03 out ks).1.map cEx)⟩)
   (fun m i=>i<=a.length/\m=a.length - i) (a0:=0) (ρ:=id) ⟨by omega,rfl⟩ (Qzw rfl zFS zsy ?_ rfl rfl (Q3j Qvn zsy)) fun m i hi=>?_
  ·repeat' first|exact Z2n|refine zlc ?_|refine zld ?_ ?_|rfl
   all_goals (simp[AObj.ren,renL,AC.ren];exact⟨rfl,rfl⟩)
  obtain⟨hil,rfl⟩:=hi;have Qvy:OuOk (ouS ou ko kt ((Q03 out ks).1.map cEx)):=Q3j Qvn zsy;refine zA ?_;refine Qyl rfl (fun hb3=>?_) (fun hb3=>?_)
  ·have Qvg:i < a.length:=by simpa using hb3
   obtain⟨c,hc⟩:=Q00 Qvg;have hal:((a.take i).map cAlt).length=i:=by simp;omega
   have hca:=Q4g (Γ:=Γ) c.binds (hab c (Z1y hc));refine zA ?_;refine zS (zIA rfl rfl rfl zoy (Q0c hc)) ?_;refine zA ?_;refine Qrp tabOk 9 [(6,.one (.sl 1 (c.binds.map cI)))] follows zky rfl rfl rfl rfl (.call hΓ hca Qvy zsy rfl rfl rfl rfl rfl rfl .nil) ?_;refine zA ?_;refine AOps.app tabOk rfl rfl rfl rfl rfl rfl rfl rfl rfl (Qrm _ _ _ _ _ (by rfl) hal.symm) (.sl _ _) rfl ?_ ?_ ?_
   ·rw[hal];show (i+1) * 32<=_;omega
   ·rw[hal];show i+1<=_;omega
   refine zM ?_;refine cInv ⟨a.length - (i+1),i+1,fun k=>if k=2 then 4 else k,by omega,⟨by omega,rfl⟩,Qzw rfl zFS zsy ?_ rfl rfl Qvy⟩;repeat' first|exact Z2n|refine zlc ?_|refine zld ?_ ?_|rfl
   ·simp only[AObj.ren,Z12,hal];rfl
   ·rw[Q0h hc];simp only[AObj.ren,renL,AC.ren,Q3v,Q3w];rw[Z1e];rfl
  have Qvg:i=a.length:=by simp at hb3;omega
  subst Qvg;rw[Z2j];refine zA ?_;refine zS (zLD rfl rfl (ouS_o hne _) rfl) ?_
  (first|((with_reducible refine oj ?_);refine zau ?_)|(with_reducible refine zst ?_)|((with_reducible refine Q07 ?_ ?_);rfl)|(with_reducible refine ok ?_;first|refine Qyn rfl ?_|refine Qym rfl ?_))
  refine Qyz 64 rfl (y:=.agg (cEx ⟨o,n,b,(Q03 out ks).2,a⟩)) (WkF.agg ?_) ?_
  ·exact .cons (.refl _) (.cons (.refl _) (.cons (.refl _) (.cons (.gsE rfl) (.cons (.gsE rfl) .nil))))
  refine zA ?_;have hT:listT out (.mk o n b ks a)=(Q03 out ks).1++[⟨o,n,b,(Q03 out ks).2,a⟩]:=by simp only[listT]
  have hmap:(Q03 out ks).1.map cEx++[cEx ⟨o,n,b,(Q03 out ks).2,a⟩]=(listT out (.mk o n b ks a)).map cEx:=by rw[hT,Z1e];rfl
  refine AOps.app (es:=(Q03 out ks).1.map cEx) tabOk rfl rfl rfl rfl rfl rfl rfl rfl rfl (Qrm _ 62 5 _ (.o kt) (ouS_t ou ko kt _) rfl) (.sl 5 [cEx ⟨o,n,b,(Q03 out ks).2,a⟩]) rfl ?_ ?_ ?_
  ·simp;show (_+1) * 88<=_;omega
  ·simp;omega
  rw[hmap];refine Qyy (cs:=[.gs 5 ((Q03 out ks).1.map cEx) (.o kt)]) tabOk rfl rfl rfl rfl rfl rfl rfl (show (bif Nat.beq ko kt then some AObj.dead else ouS ou ko kt ((Q03 out ks).1.map cEx) ko)=_ by rw[Q06 hne];exact ouS_o hne _) zsy ?_;refine Qss 3 (show 3 < 4 by omega) fun k hk=>⟨[(2,.one (.ptr (.o ko) 0))],⟨4,[],ouS ou ko k ((listT out (.mk o n b ks a)).map cEx)⟩,⟨fun d x hd=>?_,rfl,fun i x hx=>?_⟩,?_⟩
  ·by_cases e:2=d
   ·subst e;simp[Fr.get]at hd;subst hd;exact⟨_,rfl,Z46 rfl⟩
   ·simp[Fr.get,Q06 e]at hd
  ·have hk':(bif Nat.beq k ko then some (AObj.cells [.gs 5 ((listT out (.mk o n b ks a)).map cEx) (.l 3)])else bif Nat.beq k kt then some AObj.dead else ouS ou ko kt ((Q03 out ks).1.map cEx) k)=none:=hk;have k1:k≠ko:=fun e=>by subst e;simp at hk'
   rw[Q06 k1]at hk';have k2:k≠kt:=fun e=>by subst e;simp at hk'
   rw[Q06 k2]at hk';simp only[cond_false,ouS_w k1 k2]at hk';cases i with
   |l m=>cases hx
   |o m=>
    have hx':ouS ou ko k ((listT out (.mk o n b ks a)).map cEx) m=some x:=hx;by_cases e:m=k
    ·subst e;rw[ouS_t]at hx';cases hx';exact⟨.l 3,_,rfl,rfl,rfl⟩
    ·by_cases e2:m=ko
     ·subst e2;rw[ouS_o e]at hx';cases hx';refine⟨.o m,.cells [.gs 5 ((listT out (.mk o n b ks a)).map cEx) (.l 3)],?_,rfl,?_⟩
      ·show (bif Nat.beq m m then _ else _)=_;rw[Q4f];rfl
      ·simp only[AObj.sub,subL,AC.sub];rw[Qbc _ zsy];rfl
     ·rw[ouS_w e2 e]at hx';have e3:m≠kt:=fun e=>by rw[e,ht]at hx';cases hx'
      refine⟨.o m,x,?_,rfl,(Qyt x (Qvn m x hx')).symm⟩;show (bif Nat.beq m ko then _ else bif Nat.beq m kt then _ else ouS ou ko kt _ m)=_;rw[Q06 e2,Q06 e3];exact (ouS_w e2 e3 _).trans hx'
  ·have hk':(bif Nat.beq k ko then some (AObj.cells [.gs 5 ((listT out (.mk o n b ks a)).map cEx) (.l 3)])else bif Nat.beq k kt then some AObj.dead else ouS ou ko kt ((Q03 out ks).1.map cEx) k)=none:=hk;have k1:k≠ko:=fun e=>by subst e;simp at hk'
   rw[Q06 k1]at hk';have k2:k≠kt:=fun e=>by subst e;simp at hk'
   rw[Q06 k2]at hk';simp only[cond_false,ouS_w k1 k2]at hk';refine zA ?_;refine zS (zLD rfl rfl (ouS_o (Z3d k1) _) rfl) ?_;refine zM ?_;refine Qst rfl (Z46 ?_) zsy (Q3j Qvn zsy) ⟨rfl,k,hk',Z3d k1,rfl⟩;simp
end Go.Proofs.YtlmokgooijbcdaaGreatDoor
namespace Go.Abs
inductive CedFr (θ:Id->Id)(fr:Fr):Fr->Prop
 |nil:CedFr θ fr []
 |cons {k:Nat}{x y:FV}{r:Fr}(h:Fr.get k fr=some y) (hw:y.sub θ=x) (hr:CedFr θ fr r):CedFr θ fr ((k,x)::r)
theorem CedFr.get{θ:Id->Id}{fr fr':Fr}(h:CedFr θ fr fr'):∀d x,Fr.get d fr'=some x->∃y,Fr.get d fr=some y/\WkF (y.sub θ) x:=by
 induction h with
 |nil=>intro d x h;cases h
 |@cons k x y r h hw hr ih=>
  intro d z hz;simp only[Fr.get]at hz;by_cases e:k=d
  ·subst e;simp at hz;subst hz;exact⟨y,h,Z46 hw⟩
  ·rw[Q06 e]at hz;exact ih d z hz
end Go.Abs
namespace Go.Proofs.YtlmokgooijbcdaaGreatDoor
variable {Γ:List (Nat×List AC)}
theorem Qqd(hΓ:GI Γ)(t:Tr)(ht:okT t)(hsz:(listT [] t).length<=1099511627776):APure Tryz.prog Γ 32 [.one (.box (cTr t))] (.one (.sl 5 ((listT [] t).map cEx))):=by
 intro ou;refine zwk 10 Tryz.func32 fun hou=>?_;iterate 22 (refine zO ?_)
 refine Qyq 0 0 62 5 rfl rfl ?_;refine zA ?_;refine Qss 0 (show 0 < 3 by omega) fun ko hko=>⟨[(7,.one (.box (cTr t))),(6,.one (.fn (.func 66) [] [.ptr (.l 1) 0,.ptr (.o ko) 0])),(3,.one (.ptr (.o ko) 0))],
  ⟨3,[(2,.tok 62 5 0),(1,.cells [.fn (.func 66) [] [.ptr (.l 1) 0,.ptr (.o ko) 0]])],updO ou ko (.cells [.gs 5 [] (.l 2)])⟩,⟨CedFr.get ?_,rfl,fun i x hx=>?_⟩,?_⟩
 ·exact .cons rfl (FV.sub_o _ zsy) (.cons rfl rfl (.cons rfl rfl .nil))
 ·have hko:ou ko=none:=hko;cases i with
  |l m=>
   by_cases e:2=m
   ·subst e;cases hx;exact⟨.l 2,_,rfl,rfl,rfl⟩
   ·have hx':lookL m [(1,AObj.cells [.fn (.func 66) [] [.ptr (.l 1) 0,.ptr (.o ko) 0]])]=some x:=by simpa[St.get,lookL,Q06 e]using hx
    by_cases e1:1=m
    ·subst e1;cases hx';exact⟨.l 1,_,rfl,rfl,rfl⟩
    ·simp[lookL,Q06 e1]at hx'
  |o m=>
   have hx':updO ou ko (.cells [.gs 5 [] (.l 2)]) m=some x:=hx;by_cases e:ko=m
   ·subst e;rw[Q04]at hx';cases hx';exact⟨.l 0,_,rfl,rfl,rfl⟩
   ·rw[Q02 _ e]at hx';exact⟨.o m,x,hx',rfl,(Qyt x (hou m x hx')).symm⟩
 have hko:ou ko=none:=hko;refine Qss 1 (show 1 < 3 by omega) fun kw hkw=>⟨[(7,.one (.box (cTr t))),(6,.one (fnW kw ko)),(3,.one (.ptr (.o ko) 0))],
  ⟨3,[(2,.tok 62 5 0)],updO (updO ou ko (.cells [.gs 5 [] (.l 2)])) kw (.cells [fnW kw ko])⟩,⟨CedFr.get ?_,rfl,fun i x hx=>?_⟩,?_⟩
 ·exact .cons rfl (FV.sub_o _ zsy) (.cons rfl rfl (.cons rfl rfl .nil))
 ·have hkw:updO ou ko (.cells [.gs 5 [] (.l 2)]) kw=none:=hkw;cases i with
  |l m=>
   by_cases e:2=m
   ·subst e;cases hx;exact⟨.l 2,_,rfl,rfl,rfl⟩
   ·simp[St.get,lookL,Q06 e]at hx
  |o m=>
   have hx':updO (updO ou ko (.cells [.gs 5 [] (.l 2)])) kw (.cells [fnW kw ko]) m=some x:=hx;by_cases e:kw=m
   ·subst e;rw[Q04]at hx';cases hx';exact⟨.l 1,_,rfl,rfl,rfl⟩
   ·rw[Q02 _ e]at hx';by_cases e2:ko=m
    ·subst e2;rw[Q04]at hx';cases hx';exact⟨.o ko,_,Q04 _ _ _,rfl,rfl⟩
    ·have hx2:=hx';rw[Q02 _ e2]at hx2;exact⟨.o m,x,hx',rfl,(Qyt x (hou m x hx2)).symm⟩
 have hkw:updO ou ko (.cells [.gs 5 [] (.l 2)]) kw=none:=hkw;have hwo:ko≠kw:=fun e=>by subst e;rw[Q04]at hkw;cases hkw
 rw[Q02 _ hwo]at hkw;refine Qss 2 (show 2 < 3 by omega) fun kt hkt=>⟨[(7,.one (.box (cTr t))),(6,.one (fnW kw ko)),(3,.one (.ptr (.o ko) 0))],
  ⟨3,[],ouS (updO ou kw (.cells [fnW kw ko])) ko kt (([]:List Ex).map cEx)⟩,⟨CedFr.get ?_,rfl,fun i x hx=>?_⟩,?_⟩
 ·exact .cons rfl (FV.sub_o _ zsy) (.cons rfl rfl (.cons rfl rfl .nil))
 ·have hkt:updO (updO ou ko (.cells [.gs 5 [] (.l 2)])) kw (.cells [fnW kw ko]) kt=none:=hkt;have Qxa:ko≠kt:=fun e=>by subst e;rw[Q02 _ (Z3d hwo),Q04]at hkt;cases hkt
  cases i with
  |l m=>cases hx
  |o m=>
   have hx':ouS (updO ou kw (.cells [fnW kw ko])) ko kt (([]:List Ex).map cEx) m=some x:=hx;by_cases e:m=kt
   ·subst e;rw[ouS_t]at hx';cases hx';exact⟨.l 2,_,rfl,rfl,rfl⟩
   ·by_cases e2:m=ko
    ·subst e2;rw[ouS_o Qxa]at hx';cases hx';refine⟨.o m,.cells [.gs 5 [] (.l 2)],?_,rfl,rfl⟩;show updO (updO ou m (.cells [.gs 5 [] (.l 2)])) kw (.cells [fnW kw m]) m=_;rw[Q02 _ (Z3d hwo),Q04]
    ·rw[ouS_w e2 e]at hx';by_cases e3:kw=m
     ·subst e3;rw[Q04]at hx';cases hx';exact⟨.o kw,_,Q04 _ _ _,rfl,rfl⟩
     ·rw[Q02 _ e3]at hx';refine⟨.o m,x,?_,rfl,(Qyt x (hou m x hx')).symm⟩;show updO (updO ou ko (.cells [.gs 5 [] (.l 2)])) kw (.cells [fnW kw ko]) m=_;rw[Q02 _ e3,Q02 _ (Z3d e2)];exact hx'
 have hkt:updO (updO ou ko (.cells [.gs 5 [] (.l 2)])) kw (.cells [fnW kw ko]) kt=none:=hkt;have hwt:kw≠kt:=fun e=>by subst e;rw[Q04]at hkt;cases hkt
 rw[Q02 _ hwt]at hkt;have hot:ko≠kt:=fun e=>by subst e;rw[Q04]at hkt;cases hkt
 rw[Q02 _ hot]at hkt;have hob:OuOk (updO ou kw (.cells [fnW kw ko])):=fun k o hk=>by
  by_cases e:kw=k
  ·subst e;rw[Q04]at hk;cases hk;simp
  ·rw[Q02 _ e]at hk;exact hou k o hk
 have hcall:=Qi6 hΓ t ht (updO ou kw (.cells [fnW kw ko])) kw ko kt [] hob (Q04 _ _ _) (by rw[Q02 _ (Z3d hwo)];exact hko) (by rw[Q02 _ hwt];exact hkt) hot hsz;refine Qrb hΓ rfl rfl rfl rfl rfl rfl rfl zsy (Q3j hob zsy) hcall fun r ou' hq Qvd Qxb=>?_;obtain⟨rfl,kt',h1,h2,rfl⟩:=hq;refine zA ?_;refine zS (zLD rfl rfl (ouS_o h2 _) rfl) ?_;refine Qyz 9 rfl (y:=.one (.sl 5 ((listT [] t).map cEx))) (.one (.gsE rfl)) ?_;refine AOps.lessO ⟨3,[],ou⟩ rfl (fun i o ho=>?_) ?_
 ·cases i with
  |l m=>cases ho
  |o m=>
   have ho':ou m=some o:=ho;show ouS (updO ou kw (.cells [fnW kw ko])) ko kt' _ m=some o;have e1:m≠ko:=fun e=>by rw[e,hko]at ho';cases ho'
   have e2:kw≠m:=fun e=>by rw[←e,hkw]at ho';cases ho'
   have e3:m≠kt':=fun e=>by rw[←e,Q02 _ e2]at h1;rw[h1]at ho';cases ho'
   rw[ouS_w e1 e3,Q02 _ e2];exact ho'
 refine zA ?_;exact Qz0 rfl (Z46 rfl) zsy hou rfl
theorem List_ok(hΓ:GI Γ)(t:Tr)(ht:okT t)(hsz:(listT [] t).length<=1048576):APure Tryz.prog Γ 32 [.one (.box (cTr t))] (.one (.sl 5 ((listT [] t).map cEx))):=Qqd hΓ t ht zoy
end Go.Proofs.YtlmokgooijbcdaaGreatDoor
namespace Go.CoreX
def addB (β:Int->Int)(l:List Int):Int->Int:=fun k=>β k+l.count k
-- What occurs freely, by how often each is bound around.
mutual
def occB (β:Int->Int):Tr->List Int
 |.mk o n b k a=>(if o=0/\β n=0 then [n]else [])++occBs β o b a 0 k
def occBs (β:Int->Int)(o:Int)(b:List Int)(a:List Alt):Nat->List Tr->List Int
 |_,[]=>[]
 |i,t::ts=>occB (addB β (Q3b o b a i)) t++occBs β o b a (i+1) ts
end
theorem Qbm(β:Int->Int)(o:Int)(b:List Int)(a:List Alt)(t:Tr):∀(l:List Tr)(i:Nat),occBs β o b a i (l++[t])=occBs β o b a i l++occB (addB β (Q3b o b a (i+l.length:Nat))) t
 |[],i=>by simp[occBs]
 |x::l,i=>by simp only[Z03,occBs,Qbm β o b a t l (i+1),Z01,Z13];rw[show i+1+l.length=i+(l.length+1) by omega]
theorem mx_le(m:Int):∀l:List Int,m<=l.foldl mx m
 |[]=>by simp
 |d::l=>by
  have:=mx_le (mx m d) l;have:m<=mx m d:=by unfold mx;split <;> omega
  simp only[Z0l];omega
theorem mx_mem:∀(l:List Int)(m d:Int),d∈l->d<=l.foldl mx m
 |x::l,m,d,h=>by
  simp only[Z0l];rcases Z1p.1 h with rfl|h
  ·have h1:=mx_le (mx m d) l;have:d<=mx m d:=by unfold mx;split <;> omega
   omega
  ·exact mx_mem l _ d h
theorem Qnd{o n:Int}{ks:List Tr}{t:Tr}(h:t∈ks):Q30 t+1<=Q30 (.mk o n b ks a):=by simp only[Q30,Q8i];have:=mx_mem (ks.map Q30) 0 (Q30 t) (Z1x h);omega
theorem Qf7:∀t:Tr,1<=Q30 t
 |.mk o n b ks a=>by simp only[Q30];have:=mx_le 0 (Qaq ks);omega
end Go.CoreX
namespace Go.Proofs.YtlmokgooijbcdaaGreatDoor
variable {Γ:List (Nat×List AC)}
def BIs (β:Int->Int)(ck:Nat)(l:List (Nat×Int×Int)):Prop:=∃f,IMOk f ck l/\∀k,(f k).getD 0=β k
theorem BIs.put{f:Int->Option Int}(hf:∀k,(f k).getD 0=β k)(n v:Int):∀k,(setF f n v k).getD 0=if n=k then v else β k:=fun k=>by
 unfold setF;by_cases e:n=k
 ·rw[if_pos e,if_pos e];rfl
 ·rw[if_neg e,if_neg e];exact hf k
def ouB (cb:Nat)(lb:List (Nat×Int×Int))(co:Nat)(lo:List (Nat×Int×Unit)):Outer:=ouOf [.map cb (encI eN lb),.map co (encI eU lo)]
theorem Qa1(cb:Nat)(lb:List (Nat×Int×Int))(co:Nat)(lo:List (Nat×Int×Unit)):OuOk (ouB cb lb co lo):=by
 intro k o h
 match k,h with
 |0,h=>cases h;exact Qig _ _ _
 |1,h=>cases h;exact Qif _ _ _
 |k+2,h=>cases h
theorem Q9d(cb cb':Nat)(lb lb':List (Nat×Int×Int))(co:Nat)(lo:List (Nat×Int×Unit)):(fun j=>bif Nat.beq j 0 then some (AObj.map cb' (encI eN lb'))else ouB cb lb co lo j)=ouB cb' lb' co lo:=by
 funext j
 match j with
 |0=>rfl
 |1=>rfl
 |k+2=>rfl
theorem Qhl(cb:Nat)(lb:List (Nat×Int×Int))(co co':Nat)(lo lo':List (Nat×Int×Unit)):(fun j=>bif Nat.beq j 1 then some (AObj.map co' (encI eU lo'))else ouB cb lb co lo j)=ouB cb lb co' lo':=by
 funext j
 match j with
 |0=>rfl
 |1=>rfl
 |k+2=>rfl
def FreeOk (Γ:List (Nat×List AC))(t:Tr):Prop:=∀(β:Int->Int)(m:Int)(cb:Nat)(lb:List (Nat×Int×Int))(co:Nat)(lo:List (Nat×Int×Unit))(S:List Int),(∀k,0<=β k/\β k<=m)->m+Q30 t * 1048576<=4611686018427387904->BIs β cb lb->SetIs S co lo->
 AFn Tryz.prog Γ 116 [.one (.box (cTr t)),.one (.mp (.o 0)),.one (.mp (.o 1))] (ouB cb lb co lo) (fun r ou'=>r=.tup []/\∃cb' lb' co' lo',ou'=ouB cb' lb' co' lo'/\BIs β cb' lb'/\SetIs (S++occB β t) co' lo')
theorem Qkd{o:Int}(hb:b.length<=1048576)(ha:∀x∈a,x.binds.length<=1048576):(Q3b o b a k).length<=1048576:=by
 unfold Q3b;split
 ·exact hb
 ·split
  ·rename_i h1 h2;obtain⟨x,hx⟩:=Q00 (l:=a) (i:=(k - 1).toNat) zoy;rw[Z0o,hx];exact ha x (Z1y hx)
  ·simp
theorem Qnw{l:List Int}{n:Int}(h:l[j]?=some n)(k:Int):addB β (l.take (j+1)) k=if n=k then addB β (l.take j) n+1 else addB β (l.take j) k:=by
 unfold addB;rw[Q0h h,Z04];by_cases e:n=k
 ·subst e;simp;omega
 ·rw[if_neg e];have:[n].count k=0:=by simp[Z05,e]
  omega
theorem Qnx{l:List Int}{n:Int}(h:l[j]?=some n)(k:Int):addB β (l.drop (j+1)) k=if n=k then addB β (l.drop j) n - 1 else addB β (l.drop j) k:=by
 have hd:l.drop j=n::l.drop (j+1):=by obtain⟨h1,h2⟩:=Z0v.1 h;rw[Z07 h1,h2]
 unfold addB;rw[hd,Z05,Z05];by_cases e:n=k
 ·subst e;simp;omega
 ·rw[if_neg e];have:(n==k)=false:=by simpa using e
  rw[this];simp
theorem Qgt{l:List Int}(h:∀k,0<=β k/\β k<=m)(hl:l.length<=1048576)(k:Int):0<=addB β l k/\addB β l k<=m+1048576:=by have h1:=h k;have h2:=List.count_le_length (a:=k) (l:=l);unfold addB;omega
theorem Qn0(hΓ:GI Γ):∀t:Tr,okT t->FreeOk Γ t
 |.mk o n b ks a,hok=>by
  obtain⟨hb,hk,ha,⟨hab,_⟩,hks⟩:=hok;have ih:∀t∈ks,FreeOk Γ t:=fun t ht=>Qn0 hΓ t (Q34.1 hks t ht);intro β m cb lb co lo S hβ hd ⟨f,hf,hfb⟩ ⟨g,hg,hgs⟩;refine zwk 73 Tryz.func116 fun hou=>?_;iterate 1 (refine zO ?_)
  refine Qs5 hΓ (α:=Nat×List (Nat×Int×Unit)) (fun _=>[(2,.one (.mp (.o 1))),(1,.one (.mp (.o 0))),(0,.one (.box (cTr (.mk o n b ks a))))])
   (fun c=>⟨0,[],ouB cb lb c.1 c.2⟩) (fun c=>SetIs (S++if o=0/\β n=0 then [n]else []) c.1 c.2) ?_ fun c hc=>?_
  ·by_cases ho:o=0
   ·subst ho;repeat' first|refine zN ?_|(with_reducible refine oj ?_;refine Qrq rfl rfl rfl rfl (fun hb=>?_) (fun hb=>?_))|(with_reducible refine ok ?_;first|refine Qsk rfl (fun hb=>?_) (fun hb=>?_)|refine Qyl rfl (fun hb=>?_) (fun hb=>?_))
    all_goals first
     |(exfalso;simp at hb;done)
     |skip
    refine zS (Qu3 eN (cm:=false) (v:=.one (int (β n))) rfl Z44 Z42 rfl rfl rfl zky zeroN hf (by simp only[Qtv];rw[←hfb n];cases f n <;> rfl)) ?_;refine zA ?_;refine Qyl rfl (fun hb=>?_) (fun hb=>?_)
    ·have h0:β n=0:=by simpa using hb
     refine zA ?_;refine zS (Qsf rfl Tryz.underlying198 zky) ?_;refine Qu2 eU (v:=()) rfl rfl rfl Z41 Z42 rfl rfl rfl rfl hg fun ck' l' hf'=>?_;refine zA ?_;exact cInv ⟨(ck',l'),id,⟨_,hf',by rw[if_pos ⟨rfl,h0⟩];exact Qfs hgs n⟩,Qzw rfl zFS zsy .nil rfl (Qhl cb lb co ck' lo l').symm (by rw[show (St.set ⟨0,[],ouB cb lb co lo⟩ (.o 1) (.map ck' (encI eU l'))).ou=ouB cb lb ck' l' from Qhl cb lb co ck' lo l'];exact Qa1 _ _ _ _)⟩
    ·have h0:¬β n=0:=by simpa using hb
     refine zA ?_;exact cInv ⟨(co,lo),id,⟨g,hg,by rw[if_neg (fun h=>h0 h.2)];simpa using hgs⟩,Qzw rfl zFS zsy .nil rfl rfl hou⟩
   ·have hcd:((Tr.mk o n b ks a).op==0)=false:=by simpa using ho
    repeat' first|refine zN ?_|(with_reducible refine oj ?_;refine Qrq rfl rfl rfl rfl (fun hb=>?_) (fun hb=>?_))|(with_reducible refine ok ?_;first|refine Qsk rfl (fun hb=>?_) (fun hb=>?_)|refine Qyl rfl (fun hb=>?_) (fun hb=>?_))
    all_goals first
     |(exfalso;rw[hcd]at hb;cases hb;done)
     |exact cInv ⟨(co,lo),id,⟨g,hg,by rw[if_neg (fun h=>ho h.1)];simpa using hgs⟩,Qzw rfl zFS zsy .nil rfl rfl hou⟩
  ·obtain⟨co,lo⟩:=c;simp only at hc;clear hgs hg g hou;have hou:OuOk (ouB cb lb co lo):=Qa1 _ _ _ _;refine zA ?_;refine Qre hΓ (α:=Nat×(Nat×List (Nat×Int×Int))×(Nat×List (Nat×Int×Unit))) (fun c=>[(38,.one (int c.1)),(37,.one (int (Q0y ks).length)),(36,.one (.sl 1 (Q0y ks))),(2,.one (.mp (.o 1))),(1,.one (.mp (.o 0))),(0,.one (.box (cTr (.mk o n b ks a))))])
    (fun c=>⟨0,[],ouB c.2.1.1 c.2.1.2 c.2.2.1 c.2.2.2⟩) (fun m c=>c.1<=ks.length/\BIs β c.2.1.1 c.2.1.2/\SetIs (S++(if o=0/\β n=0 then [n]else [])++occBs β o b a 0 (ks.take c.1)) c.2.2.1 c.2.2.2/\m=ks.length - c.1)
    (a0:=(0,(cb,lb),(co,lo))) (ρ:=id) ⟨by omega,⟨f,hf,hfb⟩,by simpa[occBs]using hc,rfl⟩ (Qzw rfl zFS zsy .nil rfl rfl hou) fun m' c hi=>?_
   clear hc hf hfb f hou;obtain⟨i,⟨cb,lb⟩,co,lo⟩:=c;obtain⟨hil,hB,hS,rfl⟩:=hi;simp only at hil hB hS;have hou:OuOk (ouB cb lb co lo):=Qa1 _ _ _ _;refine zA ?_;refine Qyl rfl (fun hb2=>?_) (fun hb2=>?_)
   ·have hlt:i < ks.length:=by simpa using hb2
    obtain⟨t,ht⟩:=Q00 hlt;have htm:=Z1y ht;have hbn:=Qqh hΓ (.mk o n b ks a) (i:Int) zoy ha;have hll:=Qkd (o:=o) (k:=(i:Int)) hb hab;have hsn:=Qbm β o b a t (ks.take i) 0;rw[←Q0h ht]at hsn;have hmin:(ks.take i).length=i:=by simp;omega
    rw[hmin,Z3a]at hsn;simp only[Qtu,Qtw,Qty]at hbn;generalize Q3b o b a (i:Int)=l at hbn hll hsn;have hdk:=Qnd (o:=o) (n:=n) (b:=b) (a:=a) htm;refine zA ?_;refine zS (zIA rfl rfl rfl zoy (Q1z ht)) ?_;refine zA ?_;refine zca hΓ hbn hou ?_;refine zA ?_;refine Qre hΓ (α:=Nat×Nat×List (Nat×Int×Int)) (fun c=>[(48,.one (int c.1)),(47,.one (int (l.map cI).length)),(46,.one (.sl 1 (l.map cI))),(8,.one (.sl 1 (l.map cI))),(7,.one (.box (cTr t))),(38,.one (int i)),(37,.one (int (Q0y ks).length)),(36,.one (.sl 1 (Q0y ks))),(2,.one (.mp (.o 1))),(1,.one (.mp (.o 0))),(0,.one (.box (cTr (.mk o n b ks a))))])
     (fun c=>⟨0,[],ouB c.2.1 c.2.2 co lo⟩) (fun m c=>c.1<=l.length/\BIs (addB β (l.take c.1)) c.2.1 c.2.2/\m=l.length - c.1) (a0:=(0,cb,lb)) (ρ:=id) ⟨by omega,by simpa[BIs,addB]using hB,rfl⟩ (Qzw rfl zFS zsy .nil rfl rfl hou) fun m' c hj=>?_
    clear hB hou;obtain⟨j,cb,lb⟩:=c;obtain⟨hjl,⟨f,hf,hfb⟩,rfl⟩:=hj;simp only at hjl hf hfb;have hou:OuOk (ouB cb lb co lo):=Qa1 _ _ _ _;refine zA ?_;refine Qyl rfl (fun hb3=>?_) (fun hb3=>?_)
    ·have Qvg:j < l.length:=by simpa using hb3
     obtain⟨q,hq⟩:=Q00 Qvg;have hv:=Qgt (l:=l.take j) hβ zuy q;have hdp:=Qf7 t;refine zA ?_;refine zS (zIA rfl rfl rfl zoy (Q0c hq)) ?_;refine zA ?_;refine zS (Qu3 eN (cm:=false) (v:=.one (int (addB β (l.take j) q))) rfl Z44 Z42 rfl rfl rfl zky zeroN hf (by rw[←hfb q];cases f q <;> rfl)) ?_;refine zS (Qr0 rfl rfl rfl (.inl ⟨rfl,rfl⟩) zI) ?_;refine Qu2 eN (v:=addB β (l.take j) q+1) rfl rfl rfl Z44 Z42 rfl rfl rfl rfl hf fun ck' l' hf'=>?_;refine zM ?_;refine cInv ⟨l.length - (j+1),(j+1,ck',l'),id,by omega,⟨by omega,⟨_,hf',fun k=>?_⟩,rfl⟩,Qzw rfl zFS zsy .nil rfl (Q9d cb ck' lb l' co lo).symm (by rw[show (St.set ⟨0,[],ouB cb lb co lo⟩ (.o 0) (.map ck' (encI eN l'))).ou=ouB ck' l' co lo from Q9d cb ck' lb l' co lo];exact Qa1 _ _ _ _)⟩;rw[BIs.put hfb,Qnw hq]
    have Qvg:j=l.length:=by simp at hb3;omega
    subst Qvg;rw[Z2j]at hfb;have hcall:=ih t htm (addB β l) (m+1048576) cb lb co lo (S++(if o=0/\β n=0 then [n]else [])++occBs β o b a 0 (ks.take i)) (Qgt hβ hll) zoy ⟨f,hf,hfb⟩ hS;clear hf hfb f;refine zA ?_;refine Qrb hΓ rfl rfl rfl rfl rfl rfl rfl zsy hou hcall fun r ou' hq Qvd Qxb=>?_;obtain⟨rfl,cb,lb,co,lo,rfl,hB,hS2⟩:=hq;rw[Z01,←hsn]at hS2;refine zA ?_;refine Qre hΓ (α:=Nat×Nat×List (Nat×Int×Int)) (fun c=>[(63,.one (int c.1)),(62,.one (int (l.map cI).length)),(61,.one (.sl 1 (l.map cI))),(38,.one (int i)),(37,.one (int (Q0y ks).length)),(36,.one (.sl 1 (Q0y ks))),(2,.one (.mp (.o 1))),(1,.one (.mp (.o 0))),(0,.one (.box (cTr (.mk o n b ks a))))])
     (fun c=>⟨0,[],ouB c.2.1 c.2.2 co lo⟩) (fun m c=>c.1<=l.length/\BIs (addB β (l.drop c.1)) c.2.1 c.2.2/\m=l.length - c.1) (a0:=(0,cb,lb)) (ρ:=id) ⟨by omega,by simpa using hB,rfl⟩ (Qzw rfl zFS zsy .nil rfl rfl Qxb) fun m' c hj=>?_
    clear hB hou Qxb;obtain⟨j,cb,lb⟩:=c;obtain⟨hjl,⟨f,hf,hfb⟩,rfl⟩:=hj;simp only at hjl hf hfb;have hou:OuOk (ouB cb lb co lo):=Qa1 _ _ _ _;refine zA ?_;refine Qyl rfl (fun hb4=>?_) (fun hb4=>?_)
    ·have Qvg:j < l.length:=by simpa using hb4
     obtain⟨q,hq⟩:=Q00 Qvg;have hv:=Qgt (l:=l.drop j) hβ zuy q;have hdp:=Qf7 t;refine zA ?_;refine zS (zIA rfl rfl rfl zoy (Q0c hq)) ?_;refine zA ?_;refine zS (Qu3 eN (cm:=false) (v:=.one (int (addB β (l.drop j) q))) rfl Z44 Z42 rfl rfl rfl zky zeroN hf (by rw[←hfb q];cases f q <;> rfl)) ?_;refine zS (Qr0 rfl rfl rfl (.inr (.inl ⟨rfl,rfl⟩)) zI) ?_;refine Qu2 eN (v:=addB β (l.drop j) q - 1) rfl rfl rfl Z44 Z42 rfl rfl rfl rfl hf fun ck' l' hf'=>?_;refine zM ?_;refine cInv ⟨l.length - (j+1),(j+1,ck',l'),id,by omega,⟨by omega,⟨_,hf',fun k=>?_⟩,rfl⟩,Qzw rfl zFS zsy .nil rfl (Q9d cb ck' lb l' co lo).symm (by rw[show (St.set ⟨0,[],ouB cb lb co lo⟩ (.o 0) (.map ck' (encI eN l'))).ou=ouB ck' l' co lo from Q9d cb ck' lb l' co lo];exact Qa1 _ _ _ _)⟩;rw[BIs.put hfb,Qnx hq]
    ·have Qvg:j=l.length:=by simp at hb4;omega
     subst Qvg;rw[List.drop_length]at hfb;refine zM ?_;exact cInv ⟨ks.length - (i+1),(i+1,(cb,lb),(co,lo)),id,by omega,⟨by omega,⟨f,hf,fun k=>by rw[hfb k];simp[addB]⟩,hS2,rfl⟩,Qzw rfl zFS zsy .nil rfl rfl hou⟩
   ·have hlt:i=ks.length:=by simp at hb2;omega
    subst hlt;rw[Z2j,Z01]at hS;refine zA ?_;exact Qst rfl (Z47 _) zsy hou ⟨rfl,cb,lb,co,lo,rfl,hB,by simpa only [occB]using hS⟩
end Go.Proofs.YtlmokgooijbcdaaGreatDoor
namespace Go.CoreX
theorem Q6p(n k:Int):∀l:List Int,k∈Q5l n l↔k=n∨k∈l
 |[]=>by simp[Q5l]
 |m::l=>by
  simp only[Q5l];split
  ·simp
  ·split
   ·rename_i h1 h2;subst h2;simp
   ·simp only[Z1p,Q6p n k l];constructor
    ·rintro (h|h|h) <;> simp[h]
    ·rintro (h|h|h) <;> simp[h]
theorem Q6g(n:Int):∀l:List Int,l.Pairwise (· < ·)->(Q5l n l).Pairwise (· < ·)
 |[],_=>by simp[Q5l]
 |m::l,h=>by
  simp only[Z29]at h;simp only[Q5l];split
  ·rename_i h1;simp only[Z29,Z1p,forall_eq_or_imp];exact⟨⟨h1,fun a ha=>by have:=h.1 a ha;omega⟩,h.1,h.2⟩
  ·split
   ·simp only[Z29];exact h
   ·rename_i h1 h2;simp only[Z29];refine⟨fun a ha=>?_,Q6g n l h.2⟩;rcases (Q6p n a l).1 ha with rfl|ha
    ·omega
    ·exact h.1 a ha
theorem Q72(k:Int):∀l:List Int,k∈sortS l↔k∈l
 |[]=>by simp[sortS]
 |n::l=>by have ih:=Q72 k l;unfold sortS at ih ⊢;rw[List.foldr_cons,Q6p,ih,Z1p]
theorem Q5d:∀l:List Int,(sortS l).Pairwise (· < ·)
 |[]=>by simp[sortS]
 |n::l=>by have ih:=Q5d l;unfold sortS at ih ⊢;rw[List.foldr_cons];exact Q6g n _ ih
theorem Q71:∀{l r:List Int},l.Pairwise (· < ·)->r.Pairwise (· < ·)->(∀k,k∈l↔k∈r)->l=r
 |[],[],_,_,_=>rfl
 |[],b::r,_,_,h=>by have:=(h b).2 zsy;simp at this
 |a::l,[],_,_,h=>by have:=(h a).1 zsy;simp at this
 |a::l,b::r,hl,hr,h=>by
  simp only[Z29]at hl hr;have hab:a=b:=by
   have h1:=(h a).1 zsy;have h2:=(h b).2 zsy;rcases Z1p.1 h1 with h1|h1
   ·exact h1
   ·rcases Z1p.1 h2 with h2|h2
    ·exact h2.symm
    ·have:=hr.1 a h1;have:=hl.1 b h2;omega
  subst hab;congr 1;refine Q71 hl.2 hr.2 fun k=>⟨fun hk=>?_,fun hk=>?_⟩
  ·rcases Z1p.1 ((h k).1 (Z1q _ hk))with e|e
   ·have:=hl.1 k hk;omega
   ·exact e
  ·rcases Z1p.1 ((h k).2 (Z1q _ hk))with e|e
   ·have:=hr.1 k hk;omega
   ·exact e
theorem sort_eq{keys m:List Int}(hn:keys.Nodup)(h:∀k,k∈keys↔k∈m):(keys.mergeSort fun x y=>decide (x<=y))=sortS m:=by
 have hp:=List.mergeSort_perm keys (fun x y:Int=>decide (x<=y));have hs:(keys.mergeSort fun x y=>decide (x<=y)).Pairwise (fun x y=>decide (x<=y)=true):=List.pairwise_mergeSort (fun a b c h1 h2=>by simp only[decide_eq_true_eq]at *;omega) (fun a b=>by simp only[Qzk,decide_eq_true_eq];omega) keys;have hd:(keys.mergeSort fun x y=>decide (x<=y)).Nodup:=hp.nodup_iff.2 hn;refine Q71 ?_ (Q5d m) fun k=>?_
 ·have:=hs.and hd;refine this.imp fun {a b} hab=>?_;have h1:=of_decide_eq_true hab.1;have h2:=hab.2;omega
 ·rw[Q72,←h k];exact hp.mem_iff
mutual
theorem occ_eq:∀(t:Tr)(sc:List Int)(β:Int->Int),(∀k,β k=0↔sc.contains k=false)->(∀k,0<=β k)->occT sc t=occB β t
 |.mk o n b k a,sc,β,h,h0=>by
  simp only[occT,occB];rw[Qlm k sc β o b a 0 h h0];congr 1;by_cases e:o=0/\β n=0
  ·rw[if_pos e,if_pos ⟨e.1,(h n).1 e.2⟩]
  ·rw[if_neg e,if_neg (fun h2=>e ⟨h2.1,(h n).2 h2.2⟩)]
theorem Qlm:∀(l:List Tr)(sc:List Int)(β:Int->Int)(o:Int)(b:List Int)(a:List Alt)(i:Nat),(∀k,β k=0↔sc.contains k=false)->(∀k,0<=β k)->occTs sc o b a i l=occBs β o b a i l
 |[],_,_,_,_,_,_,_,_=>by simp[occTs,occBs]
 |t::l,sc,β,o,b,a,i,h,h0=>by
  simp only[occTs,occBs];rw[Qlm l sc β o b a (i+1) h h0,occ_eq t (Q3b o b a i++sc) (addB β (Q3b o b a i)) (fun k=>?_) (fun k=>?_)]
  ·unfold addB;have h1:=h k;have h2:=h0 k;have h3:(Q3b o b a i).count k=0↔(Q3b o b a i).contains k=false:=by rw[Z06];simp
   simp only[List.contains_eq_mem,Z1m,decide_eq_false_iff_not,not_or]at *;constructor
   ·intro h4;exact⟨h3.1 zoy,h1.1 zoy⟩
   ·rintro⟨h4,h5⟩;have:=h3.2 h4;have:=h1.2 h5;omega
  ·unfold addB;have:=h0 k;omega
end
theorem Qak(t:Tr):Q41 t=sortS (occB (fun _=>0) t):=by unfold Q41;rw[occ_eq t [] (fun _=>0) (fun k=>by simp) (fun k=>by simp)]
theorem Qcy{α:Type} [DecidableEq α]:∀{l m:List α},l.Nodup->(∀x∈l,x∈m)->l.length<=m.length
 |[],m,_,_=>by simp
 |a::l,m,hn,h=>by
  simp only[Z27]at hn;have ha:=h a zsy;have:=Qcy (l:=l) (m:=m.erase a) hn.2 fun x hx=>by have hne:x≠a:=fun e=>hn.1 (e▸hx);exact (List.mem_erase_of_ne hne).2 (h x (by simp[hx]))
  rw[List.length_erase_of_mem ha]at this;have:=List.length_pos_of_mem ha;simp only[Z13];omega
mutual
theorem Qcv:∀(t:Tr)(β:Int->Int)(out:List Ex),(occB β t).length+out.length<=(listT out t).length
 |.mk o n b k a,β,out=>by have:=Qeh k β o b a 0 out;simp only[occB,listT,Z12,Z1b];split <;> simp <;> omega
theorem Qeh:∀(l:List Tr)(β:Int->Int)(o:Int)(b:List Int)(a:List Alt)(i:Nat)(out:List Ex),(occBs β o b a i l).length+out.length<=(Q03 out l).1.length
 |[],_,_,_,_,_,out=>by simp[occBs,Q03]
 |t::l,β,o,b,a,i,out=>by have h1:=Qcv t (addB β (Q3b o b a i)) out;have h2:=Qeh l β o b a (i+1) (listT out t);simp only[occBs,Q03,Z12];omega
end
end Go.CoreX
namespace Go.Proofs.YtlmokgooijbcdaaGreatDoor
open Go Go.Abs Go.CoreX Go.Sort
variable {Γ:List (Nat×List AC)}
def SortOk:Prop:=∀(blk off cap:Nat)(zs:List Int)(w:World),Holds (Value.int .i64) w blk off zs.toArray->blk < w.heap.size->zs.length < 4611686018427387904->Calls Tryz.prog 117 #[.slice (some ⟨blk,off,none⟩) zs.length cap] w fun e w'=>
 e=.returned (.tuple #[])/\∃n os,w'=grow (putRow (Value.int .i64) (Sort.ahead w n) blk off (zs.mergeSort fun x y=>decide (x<=y)).toArray) os
def Qo1:Prop:=∀w:World,Calls Tryz.prog 117 #[.slice none 0 0] w fun e w'=>e=.returned (.tuple #[])/\w'=w
theorem Qbd(us:Array Value)(w:World):(callFunc 117 us).run Tryz.prog w=.ok (.enter 117 us) w:=by have h1:Tryz.prog.funcs[117]?=some Tryz.f117:=Tryz.func117;simp[callFunc,h1];rfl
def leftM (l:List (Nat×Int×Unit))(seen:List Nat):Nat:=(l.filter fun x=>decide (x.1∉seen)).length
theorem Qbp{l:List (Nat×Int×Unit)}{seen:List Nat}{x:Nat×Int×Unit}(hx:x∈l)(hb:x.1∉seen):leftM l (seen++[x.1]) < leftM l seen:=by
 unfold leftM
 induction l with
 |nil=>cases hx
 |cons y l ih=>
  have Qy3:∀l:List (Nat×Int×Unit),(l.filter fun z=>decide (z.1∉seen++[x.1])).length<=(l.filter fun z=>decide (z.1∉seen)).length:=fun l=>by
   induction l with
   |nil=>simp
   |cons z l ih=>
    simp only[List.filter_cons];split <;> split <;> simp_all <;> omega
  simp only[List.filter_cons];rcases Z1p.1 hx with rfl|hx
  ·have:=Qy3 l;rw[if_neg zsy,if_pos (by simpa using hb)];simp only[Z13];omega
  ·have:=ih hx;split <;> split <;> simp_all <;> omega
theorem pair_of{l:List (Nat×Int×Unit)}(hk:(l.map (·.2.1)).Nodup){x:Nat×Int×Unit}(hx:x∈l)(hy:y∈l)(h:x.2.1=y.2.1):x=y:=by
 induction l with
 |nil=>cases hx
 |cons z l ih=>
  simp only[Z1g,Z27]at hk;rcases Z1p.1 hx with e1|h1
  ·rcases Z1p.1 hy with e2|h2
   ·rw[e1,e2]
   ·exact absurd (Z1w.2 ⟨y,h2,by rw[←h,e1]⟩:z.2.1∈l.map (·.2.1)) hk.1
  ·rcases Z1p.1 hy with e2|h2
   ·exact absurd (Z1w.2 ⟨x,h1,by rw[h,e2]⟩:z.2.1∈l.map (·.2.1)) hk.1
   ·exact ih hk.2 h1 h2
theorem Qbr{l zs:List (Nat×Int×Unit)}(hk:(l.map (·.2.1)).Nodup):∀{zs:List (Nat×Int×Unit)},(∀x∈zs,x∈l)->(zs.map (·.1)).Nodup->(zs.map (·.2.1)).Nodup
 |[],_,_=>by simp
 |x::zs,h,hn=>by simp only[Z1g,Z27]at hn ⊢;refine⟨fun hm=>?_,Qbr (zs:=zs) hk (fun y hy=>h y (by simp[hy])) hn.2⟩;obtain⟨y,hy,e⟩:=Z1w.1 hm;have:=pair_of hk (h x zsy) (h y (by simp[hy])) e.symm;exact hn.1 (Z1w.2 ⟨y,hy,by rw[this]⟩)
@[simp] theorem ids_vecI (p : Abs.Id -> Prop) (l : List Int) (cap : Nat) : idsL p (vec 1 (l.map cI) cap) := by
 unfold vec;have e:(l.map cI).flatten=l.map int:=by
  induction l with
  |nil=>rfl
  |cons n l ih=>simp only[Z1g,Z0j,ih];rfl
 rw[e];refine Q7e (Qd8 p l) ?_;generalize (cap - (l.map cI).length) * 1=q
 induction q with
 |zero=>simp
 |succ q ih=>rw[Z2b];exact⟨trivial,ih⟩
@[simp] theorem Qog (θ:Abs.Id->Abs.Id) (ck:Nat) (l:List (Nat×Int×Unit)):AObj.sub θ (.map ck (encI eU l))=.map ck (encI eU l):=by simp[AObj.sub,encI,eU,FV.sub,subL,Function.comp_def]
theorem Qf3{β:Type}{enc:β->FV}{f:Int->Option β}{l:List (Nat×Int×β)}(h:IMOk f ck l):∀x∈encI enc l,x.1 < ck:=fun x hx=>by simp only[encI,Z1w]at hx;obtain⟨y,hy,rfl⟩:=hx;exact h.born y hy
theorem Qis{β:Type}{enc:β->FV}{l:List (Nat×Int×β)}:∀x∈encI enc l,x.2.1.oneCell'=true:=fun x hx=>by simp only[encI,Z1w]at hx;obtain⟨y,hy,rfl⟩:=hx;rfl
theorem Qao{β:Type}{enc:β->FV}:∀{l:List (Nat×Int×β)}{x:Nat×Int×β},(l.map (·.1)).Nodup->x∈l->(encI enc l).find? (fun y=>y.1==x.1)=some (x.1,.int .i64 x.2.1,enc x.2.2)
 |y::l,x,hn,hx=>by
  simp only[Z1g,Z27]at hn;rcases Z1p.1 hx with rfl|h
  ·simp[encI]
  ·have hne:y.1≠x.1:=fun e=>hn.1 (Z1w.2 ⟨_,h,e.symm⟩);have:=Qao (enc:=enc) hn.2 h;simp only[encI,Z1g,Z0f]at this ⊢;rw[beq_eq_false_iff_ne.2 hne];exact this
theorem Qnn{l:List (Nat×Int×Unit)}(hk:(l.map (·.1)).Nodup){x:Nat×Int×Unit}(hx:x∈l)(hy:y∈l)(h:x.1=y.1):x=y:=by
 induction l with
 |nil=>cases hx
 |cons z l ih=>
  simp only[Z1g,Z27]at hk;rcases Z1p.1 hx with e1|h1
  ·rcases Z1p.1 hy with e2|h2
   ·rw[e1,e2]
   ·exact absurd (Z1w.2 ⟨y,h2,by rw[←h,e1]⟩:z.1∈l.map (·.1)) hk.1
  ·rcases Z1p.1 hy with e2|h2
   ·exact absurd (Z1w.2 ⟨x,h1,by rw[h,e2]⟩:z.1∈l.map (·.1)) hk.1
   ·exact ih hk.2 h1 h2
theorem Qib{f:Int->Option Unit}{l:List (Nat×Int×Unit)}(h:IMOk f ck l)(k:Int):(f k).isSome=true↔∃x∈l,x.2.1=k:=by
 rw[←h.look k];cases hf:l.find? (fun x=>x.2.1==k) with
 |none=>
  simp only[Z3l,Option.isSome_none,Qze,false_iff];rintro⟨x,hx,e⟩;have:=Z0g.1 hf x hx;simp[e]at this
 |some x=>
  simp only[Z3m,Option.isSome_some,true_iff];have h1:=List.find?_some hf;exact⟨x,List.mem_of_find?_eq_some hf,by simpa using h1⟩
def keyL (zs:List (Nat×Int×Unit)):List Int:=zs.map (·.2.1)
def bornL (zs:List (Nat×Int×Unit)):List Nat:=zs.map (·.1)
theorem Qo4(hΓ:GI Γ)(hΓF:∀g cs,(g,cs)∈Γ->idsL (fun _=>False) cs)(hs:SortOk)(hn:Qo1)(t:Tr)(ht:okT t)(hd:Q30 t<=1048576)(hsz:(listT [] t).length<=1048576):
  APure Tryz.prog Γ 90 [.one (.box (cTr t))] (.one (.sl 1 ((Q41 t).map cI))):=by
 intro ou;refine zwk 24 Tryz.func90 fun hou=>?_;refine zA ?_;refine zS (AStep.makeMap rfl) ?_;refine zA ?_;refine zS (AStep.makeMap rfl) ?_;refine zA ?_;refine Qrt [.l 1,.l 0] [.one (.box (cTr t)),.one (.mp (.o 0)),.one (.mp (.o 1))] [.map 0 (encI eN []),.map 0 (encI eU [])] hΓF rfl rfl rfl rfl rfl rfl ?_ ?_ ?_ ?_ ?_ (Qn0 hΓ t ht (fun _=>0) 0 0 [] 0 [] [] (fun k=>by simp) zoy ⟨_,IMOk.nil,fun k=>rfl⟩ SetIs.nil) ?_
 ·simp[subF,FV.sub,AC.sub,nameOf];exact⟨(Q2r _ _ zsy).symm,rfl⟩
 ·simp[inO]
 ·simp
 ·exact⟨rfl,rfl,trivial⟩
 ·simp[inO]
 intro r ou' hq;obtain⟨rfl,cb,lb,co,lo,rfl,hB,g,hg,hgs⟩:=hq;rw[Z25]at hgs;refine⟨[.map cb (encI eN lb),.map co (encI eU lo)],rfl,rfl,by simp[inO],by simp,?_⟩;refine zA ?_;refine zS (Qru rfl Z41 rfl rfl) ?_;refine zA ?_;refine Qre hΓ (α:=List (Nat×Int×Unit)×Option Nat) (fun a=>[(12,.one (.ptr (.l 2) 0)),(4,match a.2 with|none=>.one (.lit (.slice none 0 0))|some cap=>.one (.arr (.l 3) 1 0 ((keyL a.1).map cI).length cap))])
  (fun a=>match a.2 with|none=>⟨3,[(2,.iter (.l 0) co (bornL a.1) co),(0,.map co (encI eU lo))],ou⟩|some cap=>⟨4,[(3,.cells (vec 1 ((keyL a.1).map cI) cap)),(2,.iter (.l 0) co (bornL a.1) co),(0,.map co (encI eU lo))],ou⟩)
  (fun m a=>(∀x∈a.1,x∈lo)/\(bornL a.1).Nodup/\(match a.2 with|none=>a.1=[]|some cap=>a.1.length<=cap)/\m=leftM lo (bornL a.1)) (a0:=([],none)) (ρ:=id) ⟨by simp,by simp[bornL],rfl,rfl⟩ (Qzw rfl ?_ ?_ ?_ rfl rfl hou) fun m a hj=>?_
 ·(repeat' first|exact Qzq|refine zfc ?_|refine zfo ?_|refine zfp ?_)
 ·simp
 ·repeat' first|exact Z2n|refine zlc ?_|refine zld ?_ ?_|rfl
  all_goals (rw[Qog,Qcs])
 obtain⟨zs,oc⟩:=a;obtain⟨hzs,hnd,hcap,rfl⟩:=hj;simp only at hzs hnd hcap;have hin:∀k,k∈keyL zs->k∈occB (fun _=>0) t:=fun k hk=>by obtain⟨x,hx,rfl⟩:=Z1w.1 hk;have h1:=(Qib hg x.2.1).2 ⟨x,hzs x hx,rfl⟩;rw[hgs]at h1;simpa using h1
 have hkn:(keyL zs).Nodup:=Qbr (zs:=zs) hg.nk hzs hnd;have hkl:(keyL zs).length<=1048576:=by have h1:=Qcy hkn hin;have h2:=Qcv t (fun _=>0) [];simp at h2;omega
 have hend':(∀x∈encI eU lo,x.1∈bornL zs)->(keyL zs).mergeSort (fun x y=>decide (x<=y))=Q41 t:=fun hend=>by
  rw[Qak];refine sort_eq hkn fun k=>⟨hin k,fun hk=>?_⟩;have h1:(g k).isSome=true:=by rw[hgs];simpa using hk
  obtain⟨x,hx,rfl⟩:=(Qib hg k).1 h1;have h2:=hend (x.1,.int .i64 x.2.1,eU x.2.2) (Z1w.2 ⟨x,hx,rfl⟩);obtain⟨y,hy,e⟩:=Z1w.1 h2;have:=Qnn hg.nb (hzs y hy) hx e;subst this;exact Z1w.2 ⟨y,hy,rfl⟩
 cases oc with
 |none=>
  subst hcap;refine zA ?_;refine Qrv rfl rfl rfl rfl rfl rfl rfl (Qf3 hg) (Z30 _) Qis (fun hend=>?_) (fun b u v hmem hnew=>?_)
  ·refine zA ?_;refine Qsx rfl rfl rfl rfl rfl rfl Qbd hn ?_;refine zA ?_;have h1:=hend' hend;refine Qz0 rfl (.trans (.one (.nilS 1)) (.ofEq ?_)) zsy hou rfl;rw[←h1];simp[keyL]
  ·obtain⟨rfl,x,hx,rfl,rfl,_⟩:=(Qhz _ _ _ _).1 hmem;obtain⟨bx,k,⟨⟩⟩:=x;refine zA ?_;refine zS (AStep.entry (last:=0) (u:=.int .i64 k) (v:=.agg []) rfl rfl rfl rfl (Qao hg.nb hx) rfl) ?_;refine zA ?_;refine Qyu tabOk rfl rfl rfl rfl rfl rfl rfl rfl rfl (.nil 1) (.sl 1 [cI k]) zsy rfl (by simp;show 1 * 8<=_;omega) zsy fun cap hc=>?_;refine zM ?_;refine cInv ⟨leftM lo (bornL [(bx,k,())]),([(bx,k,())],some cap),id,Qbp (x:=(bx,k,())) hx hnew,⟨by simpa using hx,by simp[bornL],by simpa using hc,rfl⟩,Qzw rfl ?_ zsy ?_ rfl rfl hou⟩
   ·exact Qzo rfl (.ofEq rfl) (Qzo rfl (.ofEq rfl) .nil)
   ·refine Z2m rfl ?_ rfl zsy (Z2m rfl ?_ rfl zsy (Z2m rfl (Qcs _ _ _).symm rfl zsy .nil))
    ·rw[Qyr _ _ zsy];simp[keyL]
    ·simp[AObj.ren,bornL];rfl
 |some cap=>
  refine zA ?_;refine Qrv rfl rfl rfl rfl rfl rfl rfl (Qf3 hg) (Z30 _) Qis (fun hend=>?_) (fun b u v hmem hnew=>?_)
  ·have h1:=hend' hend;refine zA ?_;refine Qyz 21 rfl (y:=.one (.arr (.l 3) 1 0 (keyL zs).length cap)) (.ofEq zsy) ?_;refine Qsw (l:=keyL zs) rfl rfl rfl rfl rfl rfl Qbd hs rfl zoy ?_;rw[h1];refine Qyz 4 rfl (y:=.one (.arr (.l 3) 1 0 ((Q41 t).map iC).length cap)) (.ofEq (by rw[←h1];simp)) ?_;refine AOps.freezeArr (.l 3) 4 rfl zsy rfl ?_;refine zA ?_;exact Qz0 rfl (Z46 rfl) zsy hou rfl
  ·obtain⟨rfl,x,hx,rfl,rfl,_⟩:=(Qhz _ _ _ _).1 hmem;obtain⟨bx,k,⟨⟩⟩:=x;refine zA ?_;refine zS (AStep.entry (last:=0) (u:=.int .i64 k) (v:=.agg []) rfl rfl rfl rfl (Qao hg.nb hx) rfl) ?_;refine zA ?_;have hzl:((keyL zs).map cI).length=zs.length:=by simp[keyL]
   refine Qyu tabOk rfl rfl rfl rfl rfl rfl rfl rfl rfl (.own 1 cap ((keyL zs).map cI) (.l 3) rfl (by simp[cI]) (by rw[hzl];exact hcap)) (.sl 1 [cI k]) zsy rfl (by simp;show (_+1) * 8<=_;omega) zuy fun cap' hc=>?_;refine zM ?_;refine cInv ⟨leftM lo (bornL (zs++[(bx,k,())])),(zs++[(bx,k,())],some cap'),fun k=>if k=3 then 4 else k,by have:=Qbp (x:=(bx,k,())) hx hnew;simpa[bornL]using this,⟨?_,?_,by simpa[keyL]using hc,rfl⟩,Qzw rfl ?_ zsy ?_ rfl rfl hou⟩
   ·intro y hy;rcases Z1m.1 hy with hy|hy
    ·exact hzs y hy
    ·simp at hy;subst hy;exact hx
   ·simp only[bornL,Z1e,Z1g,Z1j];rw[Z26];refine⟨hnd,by simp,fun a ha b hb e=>?_⟩;simp at hb;subst hb;subst e;exact hnew ha
   ·exact Qzo rfl (.ofEq rfl) (Qzo rfl (.ofEq (by simp[keyL,FV.ren,AC.ren];rfl)) .nil)
   ·refine Z2m rfl ?_ rfl zsy (Z2m rfl ?_ rfl zsy (Z2m rfl (Qcs _ _ _).symm rfl zsy .nil))
    ·rw[Qyr _ _ zsy];simp[keyL]
    ·simp[AObj.ren,bornL];rfl
end Go.Proofs.YtlmokgooijbcdaaGreatDoor
namespace Go.CoreX
end Go.CoreX
namespace Go.Proofs.YtlmokgooijbcdaaGreatDoor
variable {Γ:List (Nat×List AC)}
end Go.Proofs.YtlmokgooijbcdaaGreatDoor
namespace Go.Proofs
open Go.Shelf
def Qu4:Go.Shelf.Ren:=⟨fun|189=>117|125=>149|257=>148|128=>188|129=>189|294=>179|295=>180|296=>181|297=>182|298=>183|299=>184|216=>185|300=>186|301=>187|328=>216|329=>217|330=>218|331=>219|332=>220|215=>221|343=>229|n=>n,fun|28=>32|3=>3|46=>253|0=>0|51=>303|53=>224|4=>4|183=>296|182=>295|131=>203|5=>5|9=>9|218=>324|222=>96|228=>336|229=>125|n=>n,fun|n=>n⟩
theorem Qu5:Go.Proofs.Lays.n189 Tryz.prog Qu4:={
 mixed:=by kernel_rfl
 f125:=Tryz.func149.trans (congrArg some zky)
 f128:=Tryz.func188.trans (congrArg some zky)
 f129:=Tryz.func189.trans (congrArg some zky)
 f189:=Tryz.func117.trans (congrArg some zky)
 f215:=Tryz.func221.trans (congrArg some zky)
 f216:=Tryz.func185.trans (congrArg some zky)
 f257:=Tryz.func148.trans (congrArg some zky)
 f294:=Tryz.func179.trans (congrArg some zky)
 f295:=Tryz.func180.trans (congrArg some zky)
 f296:=Tryz.func181.trans (congrArg some zky)
 f297:=Tryz.func182.trans (congrArg some zky)
 f298:=Tryz.func183.trans (congrArg some zky)
 f299:=Tryz.func184.trans (congrArg some zky)
 f300:=Tryz.func186.trans (congrArg some zky)
 f301:=Tryz.func187.trans (congrArg some zky)
 f328:=Tryz.func216.trans (congrArg some zky)
 f329:=Tryz.func217.trans (congrArg some zky)
 f330:=Tryz.func218.trans (congrArg some zky)
 f331:=Tryz.func219.trans (congrArg some zky)
 f332:=Tryz.func220.trans (congrArg some zky)
 f343:=Tryz.func229.trans (congrArg some zky)
 t0:=Tryz.underlying0
 a0:=Tryz.isAgg0
 z0:=Tryz.sizeOf0
 v0:=Tryz.zeroValue0
 t3:=Z42
 a3:=Tryz.isAgg3
 z3:=Tryz.sizeOf3
 v3:=Tryz.zeroValue3
 t4:=Tryz.underlying4
 a4:=Tryz.isAgg4
 z4:=Tryz.sizeOf4
 v4:=Tryz.zeroValue4
 t5:=Tryz.underlying5
 a5:=Tryz.isAgg5
 z5:=Tryz.sizeOf5
 v5:=Tryz.zeroValue5
 t9:=Tryz.underlying9
 a9:=Tryz.isAgg9
 z9:=Tryz.sizeOf9
 v9:=Tryz.zeroValue9
 t28:=Tryz.underlying32
 a28:=Tryz.isAgg32
 z28:=Tryz.sizeOf32
 v28:=Tryz.zeroValue32
 t46:=Tryz.underlying253
 a46:=Tryz.isAgg253
 z46:=Tryz.sizeOf253
 v46:=Tryz.zeroValue253
 t51:=Tryz.underlying303
 a51:=Tryz.isAgg303
 z51:=Tryz.sizeOf303
 v51:=Tryz.zeroValue303
 t53:=Tryz.underlying224
 a53:=Tryz.isAgg224
 z53:=Tryz.sizeOf224
 v53:=Tryz.zeroValue224
 t131:=Tryz.underlying203
 a131:=Tryz.isAgg203
 z131:=Tryz.sizeOf203
 v131:=Tryz.zeroValue203
 t182:=Tryz.underlying295
 a182:=Tryz.isAgg295
 z182:=Tryz.sizeOf295
 v182:=Tryz.zeroValue295
 t183:=Tryz.underlying296
 a183:=Tryz.isAgg296
 z183:=Tryz.sizeOf296
 v183:=Tryz.zeroValue296
 t218:=Tryz.underlying324
 a218:=Tryz.isAgg324
 z218:=Tryz.sizeOf324
 v218:=Tryz.zeroValue324
 t222:=Tryz.underlying96
 a222:=Tryz.isAgg96
 z222:=Tryz.sizeOf96
 v222:=Tryz.zeroValue96
 t228:=Tryz.underlying336
 a228:=Tryz.isAgg336
 z228:=Tryz.sizeOf336
 v228:=Tryz.zeroValue336
 t229:=Tryz.underlying125
 a229:=Tryz.isAgg125
 z229:=Tryz.sizeOf125
 v229:=Tryz.zeroValue125 }
open Go.Sort Go.RowKit in
theorem Tryz.slices_Sort_int(blk off cap:Nat)(zs:List Int)(w:World)(hH:Holds (Value.int .i64) w blk off zs.toArray)(hblk:blk < w.heap.size)(hsz:zs.length < 4611686018427387904):
  Calls Tryz.prog 117 #[.slice (some ⟨blk,off,none⟩) zs.length cap] w fun e w'=>
   e=.returned (.tuple #[])/\∃n os,w'=grow (putRow (Value.int .i64) (Sort.ahead w n) blk off (zs.mergeSort fun x y=>decide (x<=y)).toArray) os:=Any.slices_Sort_int Qu5 blk off cap zs w hH hblk hsz
theorem Tryz.slices_Sort_int_none(p:Option Addr)(cap:Nat)(w:World):
  Calls Tryz.prog 117 #[.slice p 0 cap] w fun e w'=>e=.returned (.tuple #[])/\w'=w:=Any.slices_Sort_int_none Qu5 p cap w
end Go.Proofs
namespace Go.Proofs.YtlmokgooijbcdaaGreatDoor
open Go Go.Sort
theorem sortOk:SortOk:=fun blk off cap zs w hH hblk hsz=>Tryz.slices_Sort_int blk off cap zs w hH hblk hsz
theorem sortNil:Qo1:=fun w=>Tryz.slices_Sort_int_none none 0 w
end Go.Proofs.YtlmokgooijbcdaaGreatDoor
namespace Go.CoreX
theorem Qow(h:∀x∈e,x.binds.length<=1048576/\x.kids.length<=1048576/\x.alts.length<=1048576/\(∀a∈x.alts,a.binds.length<=1048576)/\x.binds.length+(x.alts.flatMap (·.binds)).length<=4194304)(hk:Q0z e):∀t∈growL e,okT t:=by
 revert h hk
 refine Q73 (P:=fun e=>(∀x∈e,x.binds.length<=1048576/\x.kids.length<=1048576/\x.alts.length<=1048576/\(∀a∈x.alts,a.binds.length<=1048576)/\x.binds.length+(x.alts.flatMap (·.binds)).length<=4194304)->Q0z e->∀t∈growL e,okT t) (fun _ _ t ht=>by simp[growL]at ht) (fun e x ih h hk t ht=>?_) e;obtain⟨h1,h2⟩:=Q3y.1 hk;have ih:=ih (fun y hy=>h y (by simp[hy])) h1;rw[Q2p]at ht;rcases Z1m.1 ht with ht|ht
 ·exact ih t ht
 ·simp at ht;subst ht;obtain⟨a1,a2,a3,a4,a5⟩:=h x zsy;refine⟨a1,by simpa using a2,a3,⟨a4,a5⟩,Q34.2 fun s hs=>?_⟩;obtain⟨k,hk2,rfl⟩:=Z1w.1 hs;have hkb:=h2 k hk2;have hl:k.toNat < (growL e).length:=by rw[Q1v];omega
  rw[Z0o,Z0t hl];exact ih _ (Z11 hl)
theorem Qps(h:e≠[]):grow e∈growL e:=by
 have hl:e.length - 1 < (growL e).length:=by rw[Q1v];have:=Z18.2 h;omega
 unfold grow;rw[Z0o,Z0t hl];exact Z11 hl
theorem Qam{α:Type}{f:α->Int}:∀{l:List α}{j:Nat}{x:α},(∀y∈l.take j,f y=0)->l[j]?=some x->f x≠0->Q1r f l=f x
 |[],j,x,_,h,_=>by simp at h
 |a::l,0,x,_,h,hx=>by simp at h;subst h;simp[Q1r,hx]
 |a::l,j+1,x,h0,h,hx=>by have h1:=h0 a zsy;simp only[Q1r,h1];exact Qam (l:=l) (j:=j) (fun y hy=>h0 y (by simp[hy])) (by simpa using h) hx
theorem Qjv(t:Tr):(Q41 t).length<=(listT [] t).length:=by
 have h1:(Q41 t).Nodup:=(Q5d (occT [] t)).imp fun {a b} h=>by omega
 have h2:=Qcy h1 (m:=occB (fun _=>0) t) fun x hx=>by rw[Qak]at hx;exact (Q72 x _).1 hx
 have h3:=Qcv t (fun _=>0) [];simp at h3;omega
theorem Q9e(h:IsTree e):(listT [] (grow e)).length=e.length:=by have hp:=Qeo h (Q40 (grow e)) (Q2y _).symm;rw[←Q9f e,←Q9f];exact hp.length_eq.symm
end Go.CoreX
namespace Go.Proofs.YtlmokgooijbcdaaGreatDoor
structure okB (e:List Ex):Prop where
 eo:okE e
 b:∀x∈e,x.binds.length+(x.alts.flatMap (·.binds)).length<=4194304
theorem okB.ex(h:okB e):∀x∈e,(Q0r x).length<=4194304/\x.binds.length+(x.alts.flatMap (·.binds)).length<=4194304:=fun x hx=>by
 have h1:=h.b x hx;refine⟨?_,h1⟩;unfold Q0r Q0s;rw[Z12];split
 ·omega
 ·simp only[Z17];omega
theorem okB.t(h:okB e)(hk:Q0z e)(hne:e≠[]):okT (grow e):=Qow (fun x hx=>⟨(h.eo.x x hx).b,(h.eo.x x hx).k,(h.eo.x x hx).a,(h.eo.x x hx).ab,h.b x hx⟩) hk _ (Qps hne)
theorem hΓcF:∀g cs,(g,cs)∈Γc->idsL (fun _=>False) cs:=fun g cs h=>by
 simp[Γc]at h;first
  |(obtain⟨rfl,rfl⟩:=h;simp[arC,Q5u];done)
  |(rcases h with ⟨rfl,rfl⟩|⟨rfl,rfl⟩ <;> simp[arC,orC,Q5u])
theorem Body_ok(e:List Ex)(he:okB e)(params:List Int)(hp:params.length<=1048576)(flat:Bool):
  APure Tryz.prog Γc 42 [.one (.sl 5 (e.map cEx)),.one (.sl 1 (params.map cI)),.one (.lit (.bool flat))] (.one (int (body e params flat))):=by
 have hel:=he.eo.l;intro ou;refine zwk 62 Tryz.func42 fun hou=>?_;refine zA ?_;refine Qyx (.l 0) 3 rfl rfl ?_;refine zca hΓc (Qdw hΓc e he.eo) hou ?_;refine zA ?_;refine Qyl rfl (fun hb=>?_) (fun hb=>?_)
 ·have hb':Q1d e≠0:=by simpa using hb
  refine zA ?_;refine Qz0 rfl (Z46 ?_) zsy hou rfl;unfold body;rw[if_pos hb']
 have h1:Q1d e=0:=by simpa using hb
 clear hb;obtain⟨t1,t2,t3⟩:=(Q2j e).1 h1;have hn:body e params flat=if Q1r (Q0i flat e) e≠0 then Q1r (Q0i flat e) e else if Q4b (params++Q08 e)=true then 7 else if (Q41 (grow e)).all (fun n=>params.contains n)=true then 0 else 6:=by unfold body;rw[if_neg (by simpa using h1)]
 refine zA ?_;refine Qre hΓc (α:=Nat) (fun j=>[(20,.one (int j)),(19,.one (int (e.map cEx).length)),(18,.one (.sl 5 (e.map cEx))),(3,.one (.box [.sl 5 (e.map cEx)])),(2,.one (.lit (.bool flat))),(1,.one (.sl 1 (params.map cI)))])
  (fun j=>⟨0,[],ou⟩) (fun m j=>j<=e.length/\(∀x∈e.take j,Q0i flat e x=0)/\m=e.length - j) (a0:=0) (ρ:=id) ⟨by omega,by simp,rfl⟩ (Qzw rfl zFS zsy zLO rfl rfl hou) fun m j hj=>?_
 obtain⟨hjl,hno,rfl⟩:=hj;refine zA ?_;refine Qyl rfl (fun hb2=>?_) (fun hb2=>?_)
 ·have hlt:j < e.length:=by simpa using hb2
  obtain⟨x,hx⟩:=Q00 hlt;have hxm:=Z1y hx;have hxo:=he.eo.x x hxm;have bad:Q0i flat e x≠0->body e params flat=Q0i flat e x:=fun h=>by rw[hn,Qam hno hx h,if_pos h]
  have hkk:∀k∈x.kids,0<=k/\k.toNat < e.length:=fun k hk=>by have:=Qad t2.k hxm k hk;omega
  have hcall:=Qek e x hxo hkk;refine zA ?_;refine zS (zIA rfl rfl rfl zoy (Q0c hx)) ?_;cases flat with
  |false=>
   have hE:Q0i false e x=if Q68 x.op=true then 3 else Q1p e x:=by simp[Q0i]
   repeat' first|refine zN ?_|(with_reducible refine oj ?_;refine Qrq rfl rfl rfl rfl (fun hb=>?_) (fun hb=>?_))|(with_reducible refine ok ?_;first|refine Qsk rfl (fun hb=>?_) (fun hb=>?_)|refine Qyl rfl (fun hb=>?_) (fun hb=>?_))
   refine zca hΓc (Qgk x.op) hou ?_;repeat' first|refine zN ?_|(with_reducible refine oj ?_;refine Qrq rfl rfl rfl rfl (fun hb=>?_) (fun hb=>?_))|(with_reducible refine ok ?_;first|refine Qsk rfl (fun hb=>?_) (fun hb=>?_)|refine Qyl rfl (fun hb=>?_) (fun hb=>?_))
   all_goals try
    (
    refine Qz0 rfl (Z46 ?_) zsy hou rfl;rw[bad (by rw[hE,if_pos hb];decide),hE,if_pos hb]
    done)
   rw[if_neg (by rw[hb];decide)]at hE;refine zca hΓc hcall hou ?_;refine zA ?_;refine Qyl rfl (fun hb3=>?_) (fun hb3=>?_)
   ·have h3:Q1p e x≠0:=by simpa using hb3
    refine zA ?_;refine Qz0 rfl (Z46 ?_) zsy hou rfl;rw[bad (by rw[hE];exact h3),hE]
   ·have h3:Q1p e x=0:=by simpa using hb3
    refine zM ?_;exact cInv ⟨e.length - (j+1),j+1,id,by omega,⟨by omega,Q23 hno hx (by rw[hE];exact h3),rfl⟩,Qzw rfl zFS zsy zLO rfl rfl hou⟩
  |true=>
   have hE:Q0i true e x=if Q7o x.op=true then 3 else Q1p e x:=by simp[Q0i]
   repeat' first|refine zN ?_|(with_reducible refine oj ?_;refine Qrq rfl rfl rfl rfl (fun hb=>?_) (fun hb=>?_))|(with_reducible refine ok ?_;first|refine Qsk rfl (fun hb=>?_) (fun hb=>?_)|refine Qyl rfl (fun hb=>?_) (fun hb=>?_))
   refine zca hΓc (Qgm x.op) hou ?_;repeat' first|refine zN ?_|(with_reducible refine oj ?_;refine Qrq rfl rfl rfl rfl (fun hb=>?_) (fun hb=>?_))|(with_reducible refine ok ?_;first|refine Qsk rfl (fun hb=>?_) (fun hb=>?_)|refine Qyl rfl (fun hb=>?_) (fun hb=>?_))
   all_goals try
    (
    refine Qz0 rfl (Z46 ?_) zsy hou rfl;rw[bad (by rw[hE,if_pos hb];decide),hE,if_pos hb]
    done)
   rw[if_neg (by rw[hb];decide)]at hE;refine zca hΓc hcall hou ?_;refine zA ?_;refine Qyl rfl (fun hb3=>?_) (fun hb3=>?_)
   ·have h3:Q1p e x≠0:=by simpa using hb3
    refine zA ?_;refine Qz0 rfl (Z46 ?_) zsy hou rfl;rw[bad (by rw[hE];exact h3),hE]
   ·have h3:Q1p e x=0:=by simpa using hb3
    refine zM ?_;exact cInv ⟨e.length - (j+1),j+1,id,by omega,⟨by omega,Q23 hno hx (by rw[hE];exact h3),rfl⟩,Qzw rfl zFS zsy zLO rfl rfl hou⟩
 have hlt:j=e.length:=by simp at hb2;omega
 subst hlt;rw[Z2j]at hno;rw[if_neg (by rw[Classical.not_not];exact (Q2c _ _).2 hno)]at hn;clear hno hb2 hjl;have hgt:=he.t t2.k t2.ne;refine zA ?_;refine zca hΓc (Qob hΓc e he.eo params hp he.ex) hou ?_;refine zA ?_;refine Qyl rfl (fun hb=>?_) (fun hb=>?_)
 ·refine zA ?_;refine Qz0 rfl (Z46 ?_) zsy hou rfl;rw[hn,if_pos hb]
 rw[if_neg (by rw[hb];decide)]at hn;refine zA ?_;refine zca hΓc (Qo3 hΓc e he.eo t2.k t2.ne) hou ?_;refine zca hΓc (Qo4 hΓc hΓcF sortOk sortNil (grow e) hgt zoy (by rw[Q9e t2];omega)) hou ?_;have hfl:=Qjv (grow e);rw[Q9e t2]at hfl;generalize Q41 (grow e)=fs at hn hfl;refine zA ?_;refine Qre hΓc (α:=Nat) (fun j=>[(53,.one (int j)),(52,.one (int (fs.map cI).length)),(51,.one (.sl 1 (fs.map cI))),(1,.one (.sl 1 (params.map cI)))])
  (fun j=>⟨0,[],ou⟩) (fun m j=>j<=fs.length/\(∀x∈fs.take j,params.contains x=true)/\m=fs.length - j) (a0:=0) (ρ:=id) ⟨by omega,by simp,rfl⟩ (Qzw rfl zFS zsy zLO rfl rfl hou) fun m j hj=>?_
 obtain⟨hjl,hno,rfl⟩:=hj;refine zA ?_;refine Qyl rfl (fun hb2=>?_) (fun hb2=>?_)
 ·have hlt:j < fs.length:=by simpa using hb2
  obtain⟨k,hk⟩:=Q00 hlt;refine zA ?_;refine zS (zIA rfl rfl rfl zoy (Q0c hk)) ?_;refine zA ?_;refine zca hΓc (Qgv hΓc params hp k) hou ?_;refine zA ?_;refine Qyl rfl (fun hb3=>?_) (fun hb3=>?_)
  ·refine zA ?_;refine Qz0 rfl (Z46 ?_) zsy hou rfl;rw[hn,if_neg];rw[Qzy];intro h;have:=h k (Z1y hk);rw[this]at hb3;cases hb3
  ·refine zM ?_;exact cInv ⟨fs.length - (j+1),j+1,id,by omega,⟨by omega,Q23 hno hk (by simpa using hb3),rfl⟩,Qzw rfl zFS zsy zLO rfl rfl hou⟩
 ·have hlt:j=fs.length:=by simp at hb2;omega
  subst hlt;rw[Z2j]at hno;refine zA ?_;refine Qz0 rfl (Z46 ?_) zsy hou rfl;rw[hn,if_pos (Qzy.2 hno)]
theorem Q9m(e:List Ex)(he:okB e):APure Tryz.prog Γc 18 [.one (.sl 5 (e.map cEx))] (.one (int (check e))):=by
 intro ou;refine zwk 5 Tryz.func18 fun hou=>?_;refine zA ?_;refine Qs8 (ws:=[.one (.sl 5 (e.map cEx)),.one (.sl 1 (([]:List Int).map cI)),.one (.lit (.bool false))]) hΓc (Body_ok e he [] zsy false) rfl rfl rfl rfl rfl rfl ?_ hou zsy ?_
 ·exact .cons (.refl _) (.cons (.one (.nilS 1)) (.cons (.refl _) .nil))
 refine zA ?_;exact Qz0 rfl (Z46 rfl) zsy hou rfl
variable {Γ:List (Nat×List AC)}
end Go.Proofs.YtlmokgooijbcdaaGreatDoor
namespace Go.Abs
theorem AStep.wk{σ':St}{x y:FV}(h:AStep E o fr σ x σ')(hw:WkF x y):AStep E o fr σ y σ':=
 fun F w C tmps hi hf next Q hk=>h F w C tmps hi hf next Q fun u w' C' a b c=>hk u w' C' a b (hw _ _ _ c)
end Go.Abs
namespace Go.Proofs.YtlmokgooijbcdaaGreatDoor
variable {Γ:List (Nat×List AC)}
mutual
def encNd:Tr->List AC
 |.mk o n b k a=>[int o,int n,.sl 1 (b.map cI),.any,.sl 2 (a.map cAlt),.sl 1 (Q3l k)]
def Q3l:List Tr->List (List AC)
 |[]=>[]
 |t::ts=>[.box (encNd t)]::Q3l ts
end
def cNd (t:Tr):List AC:=[int t.op,int t.n,.sl 1 (t.binds.map cI),.any,.sl 2 (t.alts.map cAlt),.sl 1 (Q3l t.kids)]
theorem Qpx(t:Tr):encNd t=cNd t:=by cases t;simp[encNd,cNd]
theorem Q4m:∀l:List Tr,Q3l l=l.map fun t=>[.box (cNd t)]
 |[]=>rfl
 |t::ts=>by simp[Q3l,Q4m ts,Qpx]
theorem Qjz{l:List Tr}{t:Tr}(h:l[i]?=some t):(Q3l l)[i]?=some [.box (cNd t)]:=by rw[Q4m];simp[h]
mutual
theorem Qmk(p:Abs.Id->Prop):∀t:Tr,idsL p (encNd t)
 |.mk o n b k a=>by simp[encNd,Q8b p k]
theorem Q8b(p:Abs.Id->Prop):∀l:List Tr,idsS p (Q3l l)
 |[]=>by simp[Q3l]
 |t::ts=>by simp[Q3l,Qmk p t,Q8b p ts]
end
attribute [simp] Q8b
@[simp] theorem ids_cNd (p:Abs.Id->Prop) (t:Tr):idsL p (cNd t):=by simp[cNd]
@[simp] theorem len_encNds (l:List Tr):(Q3l l).length=l.length:=by rw[Q4m];simp
theorem N_ok(op n:Int)(ks:List Tr):APure Tryz.prog Γ 10 [.one (int op),.one (int n),.one (.sl 1 (Q3l ks))] (.one (.box (cNd (.mk op n [] ks [])))):=by
 intro ou;refine zwk 13 Tryz.func10 fun hou=>?_;iterate 14 (refine zO ?_)
 refine Qyx (.l 0) 6 rfl rfl ?_;refine zA ?_;refine Qz0 rfl (.one (Z45 ?_)) zsy hou rfl;exact .cons (.refl _) (.cons (.refl _) (.cons (.nilS 1) (.cons (.any _) (.cons (.nilS 2) (.cons (.refl _) .nil)))))
theorem V_ok(hΓ:GI Γ)(n:Int):APure Tryz.prog Γ 11 [.one (int n)] (.one (.box (cNd (.mk 0 n [] [] [])))):=by
 intro ou;refine zwk 5 Tryz.func11 fun hou=>?_;refine zA ?_;refine Qs8 (ws:=[.one (int 0),.one (int n),.one (.sl 1 (Q3l []))]) hΓ (N_ok 0 n []) rfl rfl rfl rfl rfl rfl ?_ hou zsy ?_
 ·exact .cons (.refl _) (.cons (.refl _) (.cons (.one (.nilS 1)) .nil))
 refine zA ?_;exact Qz0 rfl (Z46 rfl) zsy hou rfl
def IntoOk (Γ:List (Nat×List AC))(t:Tr):Prop:=∀(ou:Outer)(ko kt:Nat)(out:List Ex),OuOk ou->ou ko=none->ou kt=none->ko≠kt->(listT out t).length<=1048576->
 AFn Tryz.prog Γ 31 [.one (.box (cNd t)),.one (.ptr (.o ko) 0)] (ouS ou ko kt (out.map cEx)) (fun r ou'=>r=.one (int (((listT out t).length:Int) - 1))/\∃kt',ou kt'=none/\ko≠kt'/\ou'=ouS ou ko kt' ((listT out t).map cEx))
theorem Qme(hΓ:GI Γ):∀t:Tr,okT t->IntoOk Γ t
 |.mk o n b ks a,hok=>by
  obtain⟨hb,hk,ha,⟨hab,_⟩,hks⟩:=hok;have ih:∀t∈ks,IntoOk Γ t:=fun t ht=>Qme hΓ t (Q34.1 hks t ht);intro ou ko kt out Qvn ho ht hne hsz;have Qwj:(Q03 out ks).1.length < 1048576:=by simp only[listT,Z12,Z1b]at hsz;omega
  refine zwk 44 Tryz.func31 fun hou=>?_;refine zA ?_;refine Qyq 0 3 3 1 rfl rfl ?_;refine Qre hΓ (α:=Nat×Nat) (fun c=>[(18,.one (int c.1)),(17,.one (int (Q3l ks).length)),(16,.one (.sl 1 (Q3l ks))),(5,.one (.ptr (.l 0) 0)),(1,.one (.ptr (.o ko) 0))])
   (fun c=>⟨2,[(1,.tok 3 1 c.1),(0,.cells [int o,int n,.sl 1 (b.map cI),.gs 1 ((Q03 out (ks.take c.1)).2.map cI) (.l 1),.sl 2 (a.map cAlt)])],ouS ou ko c.2 ((Q03 out (ks.take c.1)).1.map cEx)⟩)
   (fun m c=>c.1<=ks.length/\(ou c.2=none/\ko≠c.2)/\m=ks.length - c.1) (a0:=(0,kt)) (ρ:=id) ⟨by omega,⟨ht,hne⟩,rfl⟩ (Qzw rfl zFS zsy ?_ rfl (by simp[Q03];rfl) hou) fun m c hi=>?_
  ·repeat' first|exact Z2n|refine zlc ?_|refine zld ?_ ?_|rfl
   all_goals (simp[AObj.ren,renL,AC.ren,Q03];rfl)
  obtain⟨i,kt⟩:=c;obtain⟨hil,⟨ht,hne⟩,rfl⟩:=hi;simp only at hil ht hne;have hle:(Q03 out (ks.take i)).1.length<=(Q03 out ks).1.length:=by have:=Q32 (ks.take i) (ks.drop i) out;rw[Z2h]at this;rw[this];exact Q3a _ _
  refine zA ?_;refine Qyl rfl (fun hb3=>?_) (fun hb3=>?_)
  ·have Qvg:i < ks.length:=by simpa using hb3
   obtain⟨t,ht2⟩:=Q00 Qvg;have hsn:=Q4v t (ks.take i) out;rw[←Q0h ht2]at hsn;have hle2:(listT (Q03 out (ks.take i)).1 t).length<=1048576:=by have:=Q32 (ks.take (i+1)) (ks.drop (i+1)) out;rw[Z2h]at this;have h2:=Q3a (ks.drop (i+1)) (Q03 out (ks.take (i+1))).1;rw[←this,hsn]at h2;simp only at h2;omega
   have hcall:=ih t (Z1y ht2) ou ko kt (Q03 out (ks.take i)).1 Qvn ho ht hne hle2;have Qw5:((Q03 out (ks.take i)).2.map cI).length=i:=by rw[Z16,Q3m];simp;omega
   refine zA ?_;refine zS (zIA rfl rfl rfl zoy (Qjz ht2)) ?_;refine zA ?_;refine Qsq (va:=.one (int (((listT (Q03 out (ks.take i)).1 t).length:Int) - 1))) tabOk 6 4 []
    (fun σ=>∃kt',ou kt'=none/\ko≠kt'/\σ=⟨2,[(1,.tok 3 1 i),(0,.cells [int o,int n,.sl 1 (b.map cI),.gs 1 ((Q03 out (ks.take i)).2.map cI) (.l 1),.sl 2 (a.map cAlt)])],ouS ou ko kt' ((listT (Q03 out (ks.take i)).1 t).map cEx)⟩)
    follows zky rfl rfl rfl rfl rfl ?_ rfl ⟨rfl,rfl⟩ rfl ?_ .nil ?_ ?_
   ·rintro σ ⟨kt',h1,h2,rfl⟩;rfl
   ·refine Q1m.call hΓ rfl rfl rfl rfl zsy (Q3j Qvn zsy) hcall fun r ou' hq _ _=>?_;obtain⟨rfl,kt',h1,h2,rfl⟩:=hq;exact⟨rfl,kt',h1,h2,rfl⟩
   ·intro σ _;exact .nil
   rintro σ ⟨kt',h1,h2,rfl⟩;refine zA ?_;refine AOps.app tabOk rfl rfl rfl rfl rfl rfl rfl rfl rfl (Qrm _ _ _ _ _ (by rfl) Qw5.symm) (.sl _ _) rfl ?_ ?_ ?_
   ·rw[Qw5];show (i+1) * 8<=_;omega
   ·rw[Qw5];show i+1<=_;omega
   refine zM ?_;refine cInv ⟨ks.length - (i+1),(i+1,kt'),fun k=>if k=1 then 2 else k,by omega,⟨by omega,⟨h1,h2⟩,rfl⟩,Qzw rfl zFS zsy ?_ rfl (by simp only[hsn];rfl) (Q3j Qvn zsy)⟩;repeat' first|exact Z2n|refine zlc ?_|refine zld ?_ ?_|rfl
   ·simp only[AObj.ren,Z12,Qw5];rfl
   ·simp only[hsn];simp only[AObj.ren,renL,AC.ren,Q3v,Q3w];rw[Z1e];rfl
  have Qvg:i=ks.length:=by simp at hb3;omega
  subst Qvg;rw[Z2j]at *;refine zA ?_;have hT:listT out (.mk o n b ks a)=(Q03 out ks).1++[⟨o,n,b,(Q03 out ks).2,a⟩]:=by simp only[listT]
  have hmap:(Q03 out ks).1.map cEx++[cEx ⟨o,n,b,(Q03 out ks).2,a⟩]=(listT out (.mk o n b ks a)).map cEx:=by rw[hT,Z1e];rfl
  have hw:WkF (.agg [int o,int n,.sl 1 (b.map cI),.gs 1 ((Q03 out ks).2.map cI) (.l 1),.sl 2 (a.map cAlt)]) (.agg (cEx ⟨o,n,b,(Q03 out ks).2,a⟩)):=WkF.agg (.cons (.refl _) (.cons (.refl _) (.cons (.refl _) (.cons (.gsE rfl) (.cons (.refl _) .nil)))));have hko:(bif Nat.beq ko kt then some AObj.dead else ouS ou ko kt ((Q03 out ks).1.map cEx) ko)=some (.cells [.gs 5 ((Q03 out ks).1.map cEx) (.o kt)]):=by rw[Q06 hne];exact ouS_o hne _
  refine Qu1 (va:=.one (.gs 5 ((Q03 out ks).1.map cEx++[cEx ⟨o,n,b,(Q03 out ks).2,a⟩]) (.l 2))) (σ1:=(St.set ⟨2,[(1,.tok 3 1 ks.length),(0,.cells [int o,int n,.sl 1 (b.map cI),.gs 1 ((Q03 out ks).2.map cI) (.l 1),.sl 2 (a.map cAlt)])],ouS ou ko kt ((Q03 out ks).1.map cEx)⟩ (.o kt) .dead).push (.tok 62 5 ((Q03 out ks).1.map cEx++[cEx ⟨o,n,b,(Q03 out ks).2,a⟩]).length))
   tabOk 7 6 [(3,.one (.gs 5 ((Q03 out ks).1.map cEx) (.o kt))),(4,.agg (cEx ⟨o,n,b,(Q03 out ks).2,a⟩))] follows zky rfl rfl rfl rfl rfl rfl rfl ?_ ?_ ?_ ?_
  ·refine Qzs rfl (Qz1 (s:=5) (es:=(Q03 out ks).1.map cEx) (news:=[cEx ⟨o,n,b,(Q03 out ks).2,a⟩]) (ti:=ti33) (σ:=⟨2,[(1,.tok 3 1 ks.length),(0,.cells [int o,int n,.sl 1 (b.map cI),.gs 1 ((Q03 out ks).2.map cI) (.l 1),.sl 2 (a.map cAlt)])],ouS ou ko kt ((Q03 out ks).1.map cEx)⟩) tabOk rfl rfl rfl rfl rfl rfl (Qrm _ 62 5 _ (.o kt) (ouS_t ou ko kt _) rfl) (.sl _ _) rfl ?_ ?_)
   ·simp;show (_+1) * 88<=_;omega
   ·simp;omega
  ·refine .step rfl (zHP (zLD rfl rfl (ouS_o hne _) rfl)) ?_;exact .step rfl (zHP (AStep.wk (Qqs tabOk rfl) hw)) .nil
  ·refine .step rfl (zHP (zLD rfl rfl hko rfl)) ?_;exact .step rfl (zHP (AStep.wk (Qqs tabOk rfl) hw)) .nil
  rw[hmap];refine zA ?_;refine Qyy (cs:=[.gs 5 ((Q03 out ks).1.map cEx) (.o kt)]) tabOk rfl rfl rfl rfl rfl rfl rfl hko zsy ?_;refine Qss 2 (show 2 < 3 by omega) fun k hk=>⟨[(1,.one (.ptr (.o ko) 0))],⟨3,[],ouS ou ko k ((listT out (.mk o n b ks a)).map cEx)⟩,⟨fun d x hd=>?_,rfl,fun i x hx=>?_⟩,?_⟩
  ·by_cases e:1=d
   ·subst e;simp[Fr.get]at hd;subst hd;exact⟨_,rfl,Z46 rfl⟩
   ·simp[Fr.get,Q06 e]at hd
  ·have hk':(bif Nat.beq k ko then some (AObj.cells [.gs 5 ((listT out (.mk o n b ks a)).map cEx) (.l 2)])else bif Nat.beq k kt then some AObj.dead else ouS ou ko kt ((Q03 out ks).1.map cEx) k)=none:=hk;have k1:k≠ko:=fun e=>by subst e;simp at hk'
   rw[Q06 k1]at hk';have k2:k≠kt:=fun e=>by subst e;simp at hk'
   rw[Q06 k2]at hk';simp only[cond_false,ouS_w k1 k2]at hk';cases i with
   |l m=>cases hx
   |o m=>
    have hx':ouS ou ko k ((listT out (.mk o n b ks a)).map cEx) m=some x:=hx;by_cases e:m=k
    ·subst e;rw[ouS_t]at hx';cases hx';exact⟨.l 2,_,rfl,rfl,rfl⟩
    ·by_cases e2:m=ko
     ·subst e2;rw[ouS_o e]at hx';cases hx';refine⟨.o m,.cells [.gs 5 ((listT out (.mk o n b ks a)).map cEx) (.l 2)],?_,rfl,?_⟩
      ·show (bif Nat.beq m m then _ else _)=_;rw[Q4f];rfl
      ·simp only[AObj.sub,subL,AC.sub];rw[Qbc _ zsy];rfl
     ·rw[ouS_w e2 e]at hx';have e3:m≠kt:=fun e=>by rw[e,ht]at hx';cases hx'
      refine⟨.o m,x,?_,rfl,(Qyt x (Qvn m x hx')).symm⟩;show (bif Nat.beq m ko then _ else bif Nat.beq m kt then _ else ouS ou ko kt _ m)=_;rw[Q06 e2,Q06 e3];exact (ouS_w e2 e3 _).trans hx'
  ·have hk':(bif Nat.beq k ko then some (AObj.cells [.gs 5 ((listT out (.mk o n b ks a)).map cEx) (.l 2)])else bif Nat.beq k kt then some AObj.dead else ouS ou ko kt ((Q03 out ks).1.map cEx) k)=none:=hk;have k1:k≠ko:=fun e=>by subst e;simp at hk'
   rw[Q06 k1]at hk';have k2:k≠kt:=fun e=>by subst e;simp at hk'
   rw[Q06 k2]at hk';simp only[cond_false,ouS_w k1 k2]at hk';refine zA ?_;refine zS (zLD rfl rfl (ouS_o (Z3d k1) _) rfl) ?_;refine zM ?_;refine Qst rfl (Z46 ?_) zsy (Q3j Qvn zsy) ⟨rfl,k,hk',Z3d k1,rfl⟩;simp
theorem Qb3(hΓ:GI Γ)(t:Tr)(ht:okT t)(hsz:(listT [] t).length<=1048576):APure Tryz.prog Γ 13 [.one (.box (cNd t))] (.one (.sl 5 ((listT [] t).map cEx))):=by
 intro ou;refine zwk 7 Tryz.func13 fun hou=>?_;iterate 11 (refine zO ?_)
 refine Qyq 0 0 62 5 rfl rfl ?_;refine zA ?_;refine Qss 0 (show 0 < 2 by omega) fun ko hko=>⟨[(4,.one (.box (cNd t))),(3,.one (.ptr (.o ko) 0))],
  ⟨2,[(1,.tok 62 5 0)],updO ou ko (.cells [.gs 5 [] (.l 1)])⟩,⟨CedFr.get ?_,rfl,fun i x hx=>?_⟩,?_⟩
 ·exact .cons rfl (FV.sub_o _ zsy) (.cons rfl rfl .nil)
 ·have hko:ou ko=none:=hko;cases i with
  |l m=>
   by_cases e:1=m
   ·subst e;cases hx;exact⟨.l 1,_,rfl,rfl,rfl⟩
   ·simp[St.get,lookL,Q06 e]at hx
  |o m=>
   have hx':updO ou ko (.cells [.gs 5 [] (.l 1)]) m=some x:=hx;by_cases e:ko=m
   ·subst e;rw[Q04]at hx';cases hx';exact⟨.l 0,_,rfl,rfl,rfl⟩
   ·rw[Q02 _ e]at hx';exact⟨.o m,x,hx',rfl,(Qyt x (hou m x hx')).symm⟩
 have hko:ou ko=none:=hko;refine Qss 1 (show 1 < 2 by omega) fun kt hkt=>⟨[(4,.one (.box (cNd t))),(3,.one (.ptr (.o ko) 0))],
  ⟨2,[],ouS ou ko kt (([]:List Ex).map cEx)⟩,⟨CedFr.get ?_,rfl,fun i x hx=>?_⟩,?_⟩
 ·exact .cons rfl (FV.sub_o _ zsy) (.cons rfl rfl .nil)
 ·have hkt:updO ou ko (.cells [.gs 5 [] (.l 1)]) kt=none:=hkt;have Qxa:ko≠kt:=fun e=>by subst e;rw[Q04]at hkt;cases hkt
  cases i with
  |l m=>cases hx
  |o m=>
   have hx':ouS ou ko kt (([]:List Ex).map cEx) m=some x:=hx;by_cases e:m=kt
   ·subst e;rw[ouS_t]at hx';cases hx';exact⟨.l 1,_,rfl,rfl,rfl⟩
   ·by_cases e2:m=ko
    ·subst e2;rw[ouS_o Qxa]at hx';cases hx';exact⟨.o m,.cells [.gs 5 [] (.l 1)],Q04 _ _ _,rfl,rfl⟩
    ·rw[ouS_w e2 e]at hx';refine⟨.o m,x,?_,rfl,(Qyt x (hou m x hx')).symm⟩;show updO ou ko (.cells [.gs 5 [] (.l 1)]) m=_;rw[Q02 _ (Z3d e2)];exact hx'
 have hkt:updO ou ko (.cells [.gs 5 [] (.l 1)]) kt=none:=hkt;have hot:ko≠kt:=fun e=>by subst e;rw[Q04]at hkt;cases hkt
 rw[Q02 _ hot]at hkt;have hcall:=Qme hΓ t ht ou ko kt [] hou hko hkt hot hsz;refine Qrb hΓ rfl rfl rfl rfl rfl rfl rfl zsy (Q3j hou zsy) hcall fun r ou' hq Qvd Qxb=>?_;obtain⟨rfl,kt',h1,h2,rfl⟩:=hq;refine zA ?_;refine zS (zLD rfl rfl (ouS_o h2 _) rfl) ?_;refine Qyz 6 rfl (y:=.one (.sl 5 ((listT [] t).map cEx))) (.one (.gsE rfl)) ?_;refine AOps.lessO ⟨2,[],ou⟩ rfl (fun i o ho=>?_) ?_
 ·cases i with
  |l m=>cases ho
  |o m=>
   have ho':ou m=some o:=ho;show ouS ou ko kt' _ m=some o;have e1:m≠ko:=fun e=>by rw[e,hko]at ho';cases ho'
   have e3:m≠kt':=fun e=>by rw[←e,ho']at h1;cases h1
   rw[ouS_w e1 e3];exact ho'
 refine zA ?_;exact Qz0 rfl (Z46 rfl) zsy hou rfl
end Go.Proofs.YtlmokgooijbcdaaGreatDoor
namespace Go.CoreX
def Q54 (e:List Ex)(k:Nat):Tr:=(growL e).getD k default
theorem Q4p(hk:Q0z e){x:Ex}(hx:e[i]?=some x):Q54 e i=.mk x.op x.n x.binds (x.kids.map fun k=>Q54 e k.toNat) x.alts:=by
 have hi:=(Z0v.1 hx).1;have hs:e=e.take i++x::e.drop (i+1):=by obtain⟨h2,h3⟩:=Z0v.1 hx;rw[←h3,←Z07 h2,Z2h]
 have hl:(e.take i).length=i:=by simp;omega
 have h1:=Q9h (e.take i) (e.drop (i+1)) x;rw[←hs,hl]at h1;unfold Q54;rw[h1];simp only[Q3k,Tr.mk.injEq,true_and,and_true];refine Z1f fun k hkk=>?_;have hb:=hk i x hx k hkk;have h2:=Q5m (e:=e.take i) (l:=x::e.drop (i+1)) (i:=k.toNat) (by rw[hl];omega);rw[←hs]at h2;exact h2.symm
theorem Qg1{t s:Tr}(ht:okT t)(h:s∈t.kids):okT s:=by
 cases t with
 |mk o m b k a=>exact Q34.1 ht.2.2.2.2 s h
end Go.CoreX
namespace Go.Proofs.YtlmokgooijbcdaaGreatDoor
variable {Γ:List (Nat×List AC)}
end Go.Proofs.YtlmokgooijbcdaaGreatDoor
namespace Go.CoreX
mutual
def cntN:Tr->Nat
 |.mk _ _ _ k _=>cntNs k+1
def cntNs:List Tr->Nat
 |[]=>0
 |t::l=>cntN t+cntNs l
end
mutual
theorem Q42:∀(t:Tr)(out:List Ex),(listT out t).length=out.length+cntN t
 |.mk o n b k a,out=>by have:=Qc6 k out;simp only[listT,cntN,Z12,Z1b];omega
theorem Qc6:∀(l:List Tr)(out:List Ex),(Q03 out l).1.length=out.length+cntNs l
 |[],out=>by simp[Q03,cntNs]
 |t::l,out=>by have h1:=Q42 t out;have h2:=Qc6 l (listT out t);simp only[Q03,cntNs];omega
end
end Go.CoreX
namespace Go.Proofs.YtlmokgooijbcdaaGreatDoor
variable {Γ:List (Nat×List AC)}
end Go.Proofs.YtlmokgooijbcdaaGreatDoor
namespace Go.CoreX
theorem Qcn(h:check e=0):∀x∈e,shape x=true:=by
 intro x hx;unfold check body at h;by_cases h1:Q1d e=0
 ·rw[if_neg (by simpa using h1)]at h;by_cases h2:Q1r (Q0i false e) e=0
  ·have h3:=(Q2c _ e).1 h2 x hx;unfold Q0i at h3;simp only[Bool.false_and,Bool.not_false,Bool.true_and,Qzf]at h3;by_cases h4:Q68 x.op=true
   ·rw[if_pos h4]at h3;cases h3
   ·rw[if_neg h4]at h3;unfold Q1p at h3;by_cases h5:shape x=false
    ·rw[if_pos h5]at h3;cases h3
    ·simpa using h5
  ·rw[if_pos h2]at h;exact absurd h h2
 ·rw[if_pos h1]at h;exact absurd h h1
end Go.CoreX
namespace Go.Proofs.YtlmokgooijbcdaaGreatDoor
variable {Γ:List (Nat×List AC)}
def ow8 (l:List Int):Option Nat->AC
 |none=>.lit (.slice none 0 0)
 |some cap=>.arr (.l 0) 1 0 (l.map cI).length cap
def st8 (l:List Int)(ou:Outer):Option Nat->St
 |none=>⟨0,[],ou⟩
 |some cap=>⟨1,[(0,.cells (vec 1 (l.map cI) cap))],ou⟩
@[simp] theorem ids_ow8 (l l':List Int) (ou:Outer) (oc:Option Nat):(ow8 l oc).ids (inL (st8 l' ou oc).n):=by cases oc <;> simp[ow8,st8,AC.ids,inL]
end Go.Proofs.YtlmokgooijbcdaaGreatDoor
namespace Go.CoreX
end Go.CoreX
namespace Go.Proofs.YtlmokgooijbcdaaGreatDoor
variable {Γ:List (Nat×List AC)}
end Go.Proofs.YtlmokgooijbcdaaGreatDoor
namespace Go.CoreX
open Go.Abs (orI subI anI)
def ex0:Ex:=⟨0,0,[],[],[]⟩
def exN (e:List Ex)(i:Nat):Ex:=e.getD i ex0
def shK (e:List Ex)(k:Int):Tr:=.mk (exN e k.toNat).op (exN e k.toNat).n (exN e k.toNat).binds [] []
end Go.CoreX
namespace Go.Proofs.YtlmokgooijbcdaaGreatDoor
variable {Γ:List (Nat×List AC)}
def shD (e:List Ex)(l:List Int):List (List AC):=l.map fun k=>cB (shK e k)
@[simp] theorem ids_shD (p:Abs.Id->Prop) (e:List Ex) (l:List Int):idsS p (shD e l):=Q2a (fun k=>by simp[cB]) l
@[simp] theorem ren_shD (ρ:Nat->Nat) (e:List Ex) (l:List Int):renS ρ (shD e l)=shD e l:=Q25 ρ _ zsy
end Go.Proofs.YtlmokgooijbcdaaGreatDoor
namespace Go.CoreX
end Go.CoreX
namespace Go.Proofs.YtlmokgooijbcdaaGreatDoor
variable {Γ:List (Nat×List AC)}
theorem W_ok(hΓ:GI Γ)(n:Int):APure Tryz.prog Γ 9 [.one (int n)] (.one (.box (cNd (.mk 1 n [] [] [])))):=by
 intro ou;refine zwk 5 Tryz.func9 fun hou=>?_;refine zA ?_;refine Qs8 (ws:=[.one (int 1),.one (int n),.one (.sl 1 (Q3l []))]) hΓ (N_ok 1 n []) rfl rfl rfl rfl rfl rfl ?_ hou zsy ?_
 ·exact .cons (.refl _) (.cons (.refl _) (.cons (.one (.nilS 1)) .nil))
 refine zA ?_;exact Qz0 rfl (Z46 rfl) zsy hou rfl
end Go.Proofs.YtlmokgooijbcdaaGreatDoor
namespace Go.CoreX
abbrev Nb:=Option (Nat×Nat)
structure LAlt where
 tag:Int
 nb:Nb
 binds:List Int
def LAlt.er (a:LAlt):Alt:=⟨a.tag,a.binds⟩
inductive LTr where
 |mk (id:Nat) (op n:Int) (nb:Nb) (binds:List Int) (kids:List LTr) (alts:List LAlt)
instance:Inhabited LTr:=⟨.mk 0 0 0 none [] [] []⟩
def LTr.id:LTr->Nat|.mk i _ _ _ _ _ _=>i
def LTr.kids:LTr->List LTr|.mk _ _ _ _ _ k _=>k
mutual
def erT:LTr->Tr
 |.mk _ o n _ b k a=>.mk o n b (erTs k) (a.map LAlt.er)
def erTs:List LTr->List Tr
 |[]=>[]
 |t::ts=>erT t::erTs ts
end
theorem Q26:∀l:List LTr,erTs l=l.map erT
 |[]=>rfl
 |t::l=>by simp[erTs,Q26 l]
end Go.CoreX
namespace Go.Proofs.YtlmokgooijbcdaaGreatDoor
variable {Γ:List (Nat×List AC)}
def bC:Nb->List Int->AC
 |none,l=>.sl 1 (l.map cI)
 |some (a,cap),l=>.arr (.o a) 1 0 (l.map cI).length cap
def bO:Nb->List Int->List (Nat×AObj)
 |none,_=>[]
 |some (a,cap),l=>[(a,.cells (vec 1 (l.map cI) cap))]
def lAlt (x:LAlt):List AC:=[int x.tag,bC x.nb x.binds]
def aO (l:List LAlt):List (Nat×AObj):=l.flatMap fun x=>bO x.nb x.binds
def kC (l:List LTr):List (List AC):=l.map fun t=>[.ptr (.o t.id) 0]
def lC:LTr->List AC
 |.mk _ o n nb b k a=>[int o,int n,bC nb b,.sl 1 (kC k),.sl 2 (a.map lAlt)]
mutual
def objs:LTr->List (Nat×AObj)
 |.mk i o n nb b k a=>(i,.cells [int o,int n,bC nb b,.sl 1 (kC k),.sl 2 (a.map lAlt)])::(bO nb b++aO a)++objss k
def objss:List LTr->List (Nat×AObj)
 |[]=>[]
 |t::ts=>objs t++objss ts
end
abbrev keys (l:List (Nat×AObj)):List Nat:=l.map (·.1)
def Owns (ou:Outer)(l:List (Nat×AObj)):Prop:=∀p∈l,ou p.1=some p.2
theorem Owns.app{l r:List (Nat×AObj)}:Owns ou (l++r)↔Owns ou l/\Owns ou r:=by
 unfold Owns;constructor
 ·exact fun h=>⟨fun p hp=>h p (by simp[hp]),fun p hp=>h p (by simp[hp])⟩
 ·rintro⟨h1,h2⟩ p hp;rcases Z1m.1 hp with hp|hp
  ·exact h1 p hp
  ·exact h2 p hp
theorem Owns.frame{ou':Outer}{l:List (Nat×AObj)}(h:Owns ou l)(hf:∀j∈keys l,ou' j=ou j):Owns ou' l:=fun p hp=>(hf p.1 (Z1x hp)).trans (h p hp)
theorem Qcw:∀l:List LTr,objss l=l.flatMap objs
 |[]=>rfl
 |t::l=>by simp[objss,Qcw l]
theorem Q77:∀{t:LTr},Owns ou (objs t)->ou t.id=some (.cells (lC t))
 |.mk i o n nb b k a,h=>h (i,.cells [int o,int n,bC nb b,.sl 1 (kC k),.sl 2 (a.map lAlt)]) (by simp[objs])
theorem Qmo(p:Abs.Id->Prop)(hp:∀k,p (.o k))(nb:Nb)(l:List Int):(bC nb l).ids p:=by
 cases nb with
 |none=>simp[bC,AC.ids]
 |some x=>exact hp _
theorem ids_kC(p:Abs.Id->Prop)(hp:∀k,p (.o k))(l:List LTr):idsS p (kC l):=Q2a (f:=fun t:LTr=>[.ptr (.o t.id) 0]) (fun t=>by simp only[idsL,AC.ids,and_true];exact hp _) l
theorem Qet(p:Abs.Id->Prop)(hp:∀k,p (.o k))(l:List LAlt):idsS p (l.map lAlt):=Q2a (f:=lAlt) (fun t=>by simp only[lAlt,idsL,AC.ids,and_true,true_and];exact Qmo p hp _ _) l
theorem Qnp{Γ:List (Nat×List AC)}{F:Nat->Prop}{w:World}{C C':Ctx}(hi:Inv Γ F w C σ)(hc:Chg isO w C w C'){nb:Nb}{l:List Int}(ho:Owns σ.ou (bO nb l))(hp:∀k∈keys (bO nb l),∀a:Addr,a.block=C.blk (.o k)->C'.prot a){v:Value}
  (hr:R w C (bC nb l) v):R w C' (.sl 1 (l.map cI)) v:=by
 cases nb with
 |none=>exact R.chg hc (.sl 1 (l.map cI)) v (Qda _ _) hr
 |some x=>
  obtain⟨a,cap⟩:=x;have hg:σ.get (.o a)=some (.cells (vec 1 (l.map cI) cap)):=ho (a,.cells (vec 1 (l.map cI) cap)) (by simp[bO]);obtain⟨hok,zs,T,b1,b2,b3,b4⟩:=hi.obj _ _ hg;simp only[bC,R,Z3c]at hr;refine⟨some ⟨C.blk (.o a),0,none⟩,cap,hr.2.1,hr.2.2,.inr ⟨_,rfl,rfl,?_⟩⟩;have hl:∀x∈l.map cI,x.length=1:=fun x hx=>by obtain⟨n,_,rfl⟩:=Z1w.1 hx;rfl
  have hfl:=Q3o hl;have hzl:=RV.length b3;have hfi:idsL isO (l.map cI).flatten:=by refine Q2b.2 fun c hc=>?_;obtain⟨e,he,hce⟩:=List.mem_flatten.1 hc;obtain⟨n,_,rfl⟩:=Z1w.1 he;simp[cI]at hce;subst hce;trivial
  have hv:RV w C' (l.map cI).flatten (zs.take ((l.map cI).length * 1)):=by refine RV.chg hc _ _ hfi ?_;have:=b3.take ((l.map cI).length * 1);rwa [vec,Z2i zoy,Z2k zoy]at this
  refine RS.ofVals 0 hl hv fun j v hj=>⟨?_,hp a (by simp[bO]) _ rfl⟩;have h2:j < (l.map cI).length * 1:=by have:=(Z0v.1 hj).1;simp at this ⊢;omega
  rw[Z0z h2]at hj;rw[Z3a,cell_of_row _ _ _ _ _ _ b1];simpa using hj
theorem Qnz{Γ:List (Nat×List AC)}{F:Nat->Prop}{w:World}{C C':Ctx}{σ:St}(hi:Inv Γ F w C σ)(hc:Chg isO w C w C'):∀{l:List LAlt},Owns σ.ou (aO l)->(∀k∈keys (aO l),∀a:Addr,a.block=C.blk (.o k)->C'.prot a)->∀ad:Addr,
  RS w C 2 (l.map lAlt) ad->RS w C' 2 ((l.map LAlt.er).map cAlt) ad
 |[],_,_,ad,_=>by simp[RS]
 |x::l,ho,hp,ad,hr=>by have e:aO (x::l)=bO x.nb x.binds++aO l:=rfl;rw[e]at ho hp;obtain⟨ho1,ho2⟩:=Owns.app.1 ho;simp only[Z1g,RS,lAlt,RL]at hr;obtain⟨_,⟨⟨u,hu,hup,hur⟩,⟨v,hv,hvp,hvr⟩,_⟩,hrest⟩:=hr;refine⟨rfl,⟨⟨u,hu,hc.prot _ hup,R.chg hc _ u trivial hur⟩,⟨v,hv,hc.prot _ hvp,?_⟩,trivial⟩,Qnz hi hc ho2 (fun k hk=>hp k (by simp[keys]at hk ⊢;exact .inr hk)) _ hrest⟩;exact Qnp hi hc ho1 (fun k hk=>hp k (by simp[keys]at hk ⊢;exact .inl hk)) hvr
mutual
theorem Qhk{Γ:List (Nat×List AC)}{F:Nat->Prop}{w:World}{C C':Ctx}{σ:St}(hi:Inv Γ F w C σ)(hc:Chg isO w C w C'):∀t:LTr,Owns σ.ou (objs t)->(∀k∈keys (objs t),∀a:Addr,a.block=C.blk (.o k)->C'.prot a)->RL w C' (cTr (erT t)) ⟨C.blk (.o t.id),0,none⟩
 |.mk i o n nb b k a,ho,hp=>by
  have hg:σ.get (.o i)=some (.cells (lC (.mk i o n nb b k a))):=Q77 (t:=.mk i o n nb b k a) ho;obtain⟨hok,zs,T,b1,b2,b3,b4⟩:=hi.obj _ _ hg;have e:objs (.mk i o n nb b k a)=[(i,.cells [int o,int n,bC nb b,.sl 1 (kC k),.sl 2 (a.map lAlt)])]++((bO nb b++aO a)++objss k):=by simp[objs]
  rw[e]at ho hp;obtain⟨_,ho2⟩:=Owns.app.1 ho;obtain⟨ho3,Qvp⟩:=Owns.app.1 ho2;obtain⟨hob,hoa⟩:=Owns.app.1 ho3;have hpb:∀k'∈keys (bO nb b),∀a:Addr,a.block=C.blk (.o k')->C'.prot a:=fun k' hk=>hp k' (by simp[keys]at hk ⊢;exact .inr (.inl hk));have hpa:∀k'∈keys (aO a),∀a:Addr,a.block=C.blk (.o k')->C'.prot a:=fun k' hk=>hp k' (by simp[keys]at hk ⊢;exact .inr (.inr (.inl hk)));have hpk:∀k'∈keys (objss k),∀a:Addr,a.block=C.blk (.o k')->C'.prot a:=fun k' hk=>hp k' (by simp[keys]at hk ⊢;exact .inr (.inr (.inr hk)));simp only[lC,RV,R]at b3;obtain⟨v1,_,rfl,⟨rfl,_⟩,v2,_,rfl,⟨rfl,_⟩,v3,_,rfl,h3,v4,_,rfl,⟨a4,c4,rfl,l4,h4⟩,v5,_,rfl,⟨a5,c5,rfl,l5,h5⟩,rfl⟩:=b3;have hrv:RV w C' (cTr (erT (.mk i o n nb b k a))) [.int .i64 o,.int .i64 n,v3,.slice a4 (kC k).length c4,.slice a5 (a.map lAlt).length c5]:=by
   simp only[cTr,erT,Qtu,Qtv,Qtw,Qtx,Qty,RV];refine⟨_,_,rfl,by simp[R,Value.oneCell'],_,_,rfl,by simp[R,Value.oneCell'],_,_,rfl,Qnp hi hc hob hpb h3,_,_,rfl,?_,_,_,rfl,?_,rfl⟩
   ·refine⟨a4,c4,by simp[kC,Q26],by simpa[kC,Q26]using l4,?_⟩;rcases h4 with h4|⟨ad,rfl,hs,h4⟩
    ·left;simp only[kC,List.map_eq_nil_iff]at h4;subst h4;rfl
    ·exact .inr ⟨ad,rfl,hs,Qeb hi hc k Qvp hpk ad h4⟩
   ·refine⟨a5,c5,by simp,by simpa using l5,?_⟩;rcases h5 with h5|⟨ad,rfl,hs,h5⟩
    ·left;simp only[List.map_eq_nil_iff]at h5;subst h5;rfl
    ·exact .inr ⟨ad,rfl,hs,Qnz hi hc hoa hpa ad h5⟩
  refine RL.of_new 0 hrv (fun j v hj=>?_) (fun ad ha=>?_)
  ·rw[Z3a];show w.cell? ⟨C.blk (.o i),j,none⟩=some v;rw[cell_of_row _ _ _ _ _ _ b1];simpa using hj
  ·exact hp i (by simp[keys]) _ ha
theorem Qeb{Γ:List (Nat×List AC)}{F:Nat->Prop}{w:World}{C C':Ctx}{σ:St}(hi:Inv Γ F w C σ)(hc:Chg isO w C w C'):∀l:List LTr,Owns σ.ou (objss l)->(∀k∈keys (objss l),∀a:Addr,a.block=C.blk (.o k)->C'.prot a)->∀ad:Addr,RS w C 1 (kC l) ad->RS w C' 1 (Q0y (erTs l)) ad
 |[],_,_,ad,_=>by simp[erTs,Q0y,RS]
 |t::l,ho,hp,ad,hr=>by have e:objss (t::l)=objs t++objss l:=rfl;rw[e]at ho hp;obtain⟨ho1,ho2⟩:=Owns.app.1 ho;simp only[kC,Z1g,RS,RL,R]at hr;obtain⟨_,⟨⟨u,hu,hup,_,hur⟩,_⟩,hrest⟩:=hr;simp only[erTs,Q0y,RS];refine⟨rfl,⟨⟨u,hu,hc.prot _ hup,⟨_,hur,rfl,?_⟩⟩,trivial⟩,Qeb hi hc l ho2 (fun k hk=>hp k (by simp[keys]at hk ⊢;exact .inr hk)) _ hrest⟩;rw[Qir];exact Qhk hi hc t ho1 fun k hk=>hp k (by simp[keys]at hk ⊢;exact .inl hk)
end
mutual
theorem Q82:∀t:LTr,∀p∈objs t,∃cs,p.2=.cells cs
 |.mk i o n nb b k a,p,hp=>by
  simp only[objs,Z03,Z1p,Z1m]at hp;have hb:∀(nb:Nb) (l:List Int),∀p∈bO nb l,∃cs,p.2=.cells cs:=fun nb l p hp=>by
   cases nb with
   |none=>simp[bO]at hp
   |some x=>simp[bO]at hp;subst hp;exact⟨_,rfl⟩
  rcases hp with rfl|(hp|hp)|hp
  ·exact⟨_,rfl⟩
  ·exact hb _ _ p hp
  ·unfold aO at hp;obtain⟨x,_,hx⟩:=Z1u.1 hp;exact hb _ _ p hx
  ·exact Qa5 k p hp
theorem Qa5:∀l:List LTr,∀p∈objss l,∃cs,p.2=.cells cs
 |[],p,hp=>by simp[objss]at hp
 |t::l,p,hp=>by
  simp only[objss,Z1m]at hp;rcases hp with hp|hp
  ·exact Q82 t p hp
  ·exact Qa5 l p hp
end
theorem Qu6{t:LTr}(h:Owns σ.ou (objs t)):LendF σ (.one (.ptr (.o t.id) 0)) (.one (.box (cTr (erT t)))):=by intro Γ F w C v hi hr;simp only[RF,R]at hr;refine⟨_,hr.2,rfl,Qhk hi hi.stillChg t h fun k hk a ha=>?_⟩;obtain⟨p,hp,rfl⟩:=Z1w.1 hk;obtain⟨cs,hcs⟩:=Q82 t p hp;show a.block < w.heap.size;rw[ha];exact (Qqn (hi.obj (.o p.1) p.2 (h p hp)).2 (by rw[hcs];rfl)).2
end Go.Proofs.YtlmokgooijbcdaaGreatDoor
namespace Go.CoreX
def frB (f:Int)(l:List Int):List Int:=(List.range l.length).map fun i:Nat=>f+i
def frN (m:Nm)(f:Int)(l:List Int):Nm:=putsN m l (frB f l)
end Go.CoreX
namespace Go.Proofs.YtlmokgooijbcdaaGreatDoor
variable {Γ:List (Nat×List AC)}
end Go.Proofs.YtlmokgooijbcdaaGreatDoor
namespace Go.CoreX
def rnAs (nm:Nm)(f:Int):List LAlt->List LAlt×Nm×Int
 |[]=>([],nm,f)
 |x::l=>(⟨x.tag,x.nb,frB f x.binds⟩::(rnAs (frN nm f x.binds) (f+x.binds.length) l).1,(rnAs (frN nm f x.binds) (f+x.binds.length) l).2)
def ren1 (o:Int)(nm:Nm)(f:Int)(b:List Int):List Int×Nm×Int:=if o=9 then (b,nm,f)else (frB f b,frN nm f b,f+b.length)
mutual
def rnL (nm:Nm)(f:Int):LTr->LTr×Nm×Int
 |.mk i o n nb b k a=>
  let s1:=ren1 o nm f b
  let s2:=rnAs s1.2.1 s1.2.2 a
  let s3:=rnLs s2.2.1 s2.2.2 k
  (.mk i o (if o=0 then (nm n).getD n else n) nb s1.1 s3.1 s2.1,s3.2)
def rnLs (nm:Nm)(f:Int):List LTr->List LTr×Nm×Int
 |[]=>([],nm,f)
 |t::l=>((rnL nm f t).1::(rnLs (rnL nm f t).2.1 (rnL nm f t).2.2 l).1,(rnLs (rnL nm f t).2.1 (rnL nm f t).2.2 l).2)
end
def ownB (nb:Nb)(b:List Int):Prop:=nb=none->b=[]
mutual
def okL:LTr->Prop
 |.mk _ o _ nb b k a=>(o≠9->ownB nb b)/\b.length<=1048576/\k.length<=1048576/\a.length<=1048576/\(∀x∈a,ownB x.nb x.binds/\x.binds.length<=1048576)/\okLs k
def okLs:List LTr->Prop
 |[]=>True
 |t::l=>okL t/\okLs l
end
theorem Qhr:∀{l:List LTr},okLs l↔∀t∈l,okL t
 |[]=>by simp[okLs]
 |t::l=>by simp[okLs,Qhr (l:=l)]
end Go.CoreX
namespace Go.Proofs.YtlmokgooijbcdaaGreatDoor
variable {Γ:List (Nat×List AC)}
theorem Qd4(l r:List (Nat×AObj)):keys (l++r)=keys l++keys r:=by simp[keys]
theorem Q64{k:Nat}{os:List AObj}(h:OuOk ou)(ho:∀o∈os,o.ids isO):OuOk (ouAdd ou k os):=by
 intro m o hm;rcases Z33 m k with h1|h1
 ·rw[Q14 h1]at hm;exact h m o hm
 ·obtain⟨p,rfl⟩:∃p,m=k+p:=⟨m - k,by omega⟩;rw[Q0o]at hm;exact ho o (Z1y hm)
structure NewO (ou ou':Outer)(L:List (Nat×AObj)):Prop where
 own:Owns ou' L
 new:∀k∈keys L,ou k=none
 old:∀m,m∉keys L->ou' m=ou m
 ok:OuOk ou'
 nd:(keys L).Nodup
theorem NewO.nil(h:OuOk ou):NewO ou ou []:=⟨fun p hp=>by simp at hp,fun k hk=>by simp[keys]at hk,fun _ _=>rfl,h,by simp[keys]⟩
theorem NewO.trans{ou1 ou2:Outer}{L M:List (Nat×AObj)}(h:NewO ou ou1 L)(k:NewO ou1 ou2 M):NewO ou ou2 (L++M):=by
 have hLM:∀j∈keys L,j∉keys M:=fun j hj hm=>by have h1:=k.new j hm;obtain⟨p,hp,rfl⟩:=Z1w.1 hj;rw[h.own p hp]at h1;cases h1
 refine⟨Owns.app.2 ⟨h.own.frame fun j hj=>k.old j (hLM j hj),k.own⟩,fun j hj=>?_,fun m hm=>?_,k.ok,?_⟩
 ·rw[Qd4,Z1m]at hj;by_cases e:j∈keys L
  ·exact h.new j e
  ·rw[←h.old j e];exact k.new j (hj.resolve_left e)
 ·rw[Qd4,Z1m,not_or]at hm;rw[k.old m hm.2,h.old m hm.1]
 ·rw[Qd4,Z26];exact⟨h.nd,k.nd,fun a ha b hb e=>hLM a ha (e▸hb)⟩
theorem NewO.frame{ou ou':Outer}{L M:List (Nat×AObj)}(h:NewO ou ou' L)(ho:Owns ou M):Owns ou' M:=ho.frame fun j hj=>h.old j fun hm=>by obtain⟨p,hp,rfl⟩:=Z1w.1 hj;have:=h.new _ hm;rw[ho p hp]at this;cases this
end Go.Proofs.YtlmokgooijbcdaaGreatDoor
namespace Go.CoreX
theorem Qiv:∀{e f:List Ex},e.map (·.kids)=f.map (·.kids)->∀i,cnt e i=cnt f i
 |[],[],_,_=>rfl
 |[],_::_,h,_=>by simp at h
 |_::_,[],h,_=>by simp at h
 |x::e,y::f,h,i=>by simp only[Z1g,List.cons.injEq]at h;simp only[cnt,h.1,Qiv h.2 i]
def ixE (e:List Ex):List Ex:=e.mapIdx fun i x=>{ x with n:=(i:Nat) }
theorem Qaf:(ixE e)[i]?=(e[i]?).map fun x=>{ x with n:=(i:Nat) }:=by simp[ixE]
theorem Qpn(e:List Ex):(ixE e).map (·.kids)=e.map (·.kids):=by apply Z0c;intro i;simp only[Z0w,Qaf];cases e[i]? <;> rfl
theorem Qd5(e:List Ex):(ixE e).length=e.length:=by simp[ixE]
theorem Qpm(h:IsTree e):IsTree (ixE e):=by
 refine⟨fun e0=>h.ne (by have:=Qd5 e;rw[e0]at this;exact Z15.1 (by simpa using this.symm)),fun j x hx=>?_,fun i hi=>?_⟩
 ·rw[Qaf]at hx;cases he:e[j]? with
  |none=>rw[he]at hx;cases hx
  |some y=>
   rw[he]at hx;simp at hx;subst hx;exact h.k j y he
 ·rw[Qiv (Qpn e),Qd5];exact h.c i (by rw[Qd5]at hi;exact hi)
theorem labs_n(e:List Ex):(labs e).map (·.n)=e.map (·.n):=by simp[labs,labE]
theorem ixE_n(e:List Ex):(ixE e).map (·.n)=(List.range e.length).map fun i:Nat=>(i:Int):=by
 apply Z0c;intro i;simp only[Z0w,Qaf];by_cases h:i < e.length
 ·simp[h]
 ·simp[h]
end Go.CoreX
namespace Go.Proofs.YtlmokgooijbcdaaGreatDoor
def ownO:LTr->List (Nat×AObj)
 |.mk i o n nb b k a=>(bO nb b++aO a)++[(i,.cells [int o,int n,bC nb b,.sl 1 (kC k),.sl 2 (a.map lAlt)])]
theorem Qhu:∀(t:LTr)(p:Nat×AObj),p∈objs t↔p∈ownO t∨p∈objss t.kids
 |.mk i o n nb b k a,p=>by
  simp only[objs,ownO,LTr.kids,Z03,Z1p,Z1m,Z28,or_false];constructor
  ·rintro (h|(h|h)|h) <;> simp[h]
  ·rintro (((h|h)|h)|h) <;> simp[h]
theorem Qje(k:Nat):∀t:LTr,(keys (objs t)).count k=(keys (ownO t)).count k+(keys (objss t.kids)).count k
 |.mk i o n nb b ks a=>by simp only[objs,ownO,LTr.kids,keys,Z1g,Z1e,Z03,Z05,Z04,Z1j,List.count_nil];omega
structure LinkL (e:List Ex)(lts:List LTr)(B:Nb->List Int->Prop:=ownB):Prop where
 len:lts.length=e.length
 at_:∀(i:Nat) (x:Ex),e[i]?=some x->∃id nb a,lts[i]?=some (.mk id x.op x.n nb x.binds (x.kids.map fun q=>lts.getD q.toNat default) a)/\a.map LAlt.er=x.alts/\B nb x.binds/\∀y∈a,B y.nb y.binds
theorem LinkL.nil{B:Nb->List Int->Prop}:LinkL [] [] B:=⟨rfl,fun i x h=>by simp at h⟩
theorem LinkL.snoc{B:Nb->List Int->Prop}{lts:List LTr}(h:LinkL e lts B)(hk:Q0z e){x:Ex}(hx:∀q∈x.kids,0<=q/\q < (e.length:Int)){id:Nat}{nb:Nb}{a:List LAlt}(ha:a.map LAlt.er=x.alts)(hb:B nb x.binds)(hab:∀y∈a,B y.nb y.binds):
  LinkL (e++[x]) (lts++[.mk id x.op x.n nb x.binds (x.kids.map fun q=>lts.getD q.toNat default) a]) B:=by
 have hgd:∀(q:Int),0<=q->q < (e.length:Int)->∀t,(lts++[t]).getD q.toNat default=lts.getD q.toNat default:=fun q h0 h1 t=>Q9i (by rw[h.len];omega);refine⟨by simp[h.len],fun i y hy=>?_⟩;by_cases hi:i < e.length
 ·rw[Z0p hi]at hy;obtain⟨id',nb',a',h1,h2,h3,h4⟩:=h.at_ i y hy;refine⟨id',nb',a',?_,h2,h3,h4⟩;rw[Z0p (by rw[h.len];exact hi),h1];congr 2;refine Z1f fun q hq=>?_;have:=hk i y hy q hq;exact (hgd q this.1 zoy _).symm
 ·have hie:i=e.length:=by have:=(Z0v.1 hy).1;simp at this;omega
  subst hie;simp at hy;subst hy;refine⟨id,nb,a,?_,ha,hb,hab⟩;rw[←h.len,Z0q zsy];simp only[Z37,Z0r];congr 2;exact Z1f fun q hq=>(hgd q (hx q hq).1 (hx q hq).2 _).symm
section
variable {e:List Ex}{lts:List LTr}{B:Nb->List Int->Prop}
theorem LinkL.getD(h:LinkL e lts B){i:Nat}{t:LTr}(ht:lts[i]?=some t):lts.getD i default=t:=by rw[Z0o,ht];rfl
theorem LinkL.er(h:LinkL e lts B)(hk:Q0z e):∀(n i:Nat)(t:LTr),i < n->lts[i]?=some t->erT t=Q54 e i
 |0,i,t,hi,_=>by omega
 |n+1,i,t,hi,ht=>by
  have hil:i < e.length:=by rw[←h.len];exact (Z0v.1 ht).1
  obtain⟨x,hx⟩:=Q00 hil;obtain⟨id,nb,a,h1,h2,_⟩:=h.at_ i x hx;rw[ht]at h1;cases h1;rw[Q4p hk hx];simp only[erT,h2,Q26,Z1i];congr 1;refine Z1f fun q hq=>?_;have hq':=hk i x hx q hq;obtain⟨t',ht'⟩:=Q00 (l:=lts) (i:=q.toNat) (by rw[h.len];omega);simp only[Function.comp,h.getD ht'];exact h.er hk n q.toNat t' zoy ht'
theorem LinkL.own(h:LinkL e lts B)(hk:Q0z e):∀(n i:Nat)(t:LTr),i < n->lts[i]?=some t->∀p∈objs t,p∈lts.flatMap ownO
 |0,i,t,hi,_=>by omega
 |n+1,i,t,hi,ht=>fun p hp=>by
  have hil:i < e.length:=by rw[←h.len];exact (Z0v.1 ht).1
  obtain⟨x,hx⟩:=Q00 hil;obtain⟨id,nb,a,h1,_⟩:=h.at_ i x hx;rw[ht]at h1;rcases (Qhu t p).1 hp with hp|hp
  ·exact Z1u.2 ⟨t,Z1y ht,hp⟩
  ·cases h1;simp only[LTr.kids,Qcw]at hp;obtain⟨u,hu,hpu⟩:=Z1u.1 hp;obtain⟨q,hq,rfl⟩:=Z1w.1 hu;have hq':=hk i x hx q hq;obtain⟨t',ht'⟩:=Q00 (l:=lts) (i:=q.toNat) (by rw[h.len];omega);rw[h.getD ht']at hpu;exact h.own hk n q.toNat t' zoy ht' p hpu
def ownC (lts:List LTr)(k:Nat)(l:Lab):Int:=((keys (ownO (lts.getD l.n.toNat default))).count k:Nat)
theorem Qa4(k:Nat):∀l:List LTr,(((keys (objss l)).count k:Nat):Int)=(l.map fun t=>(((keys (objs t)).count k:Nat):Int)).sum
 |[]=>by simp[objss,keys]
 |t::l=>by have:=Qa4 k l;simp only[keys]at this;simp only[objss,keys,Z1e,Z04,Z1g,Z2f,←this];push_cast;rfl
theorem LinkL.count(h:LinkL e lts B)(hk:Q0z e)(k:Nat):∀(n i:Nat)(t:LTr),i < n->lts[i]?=some t->sumT (ownC lts k) (Q54 (ixE e) i)=((keys (objs t)).count k:Nat)
 |0,i,t,hi,_=>by omega
 |n+1,i,t,hi,ht=>by
  have hil:i < e.length:=by rw[←h.len];exact (Z0v.1 ht).1
  obtain⟨x,hx⟩:=Q00 hil;obtain⟨id,nb,a,h1,_⟩:=h.at_ i x hx;rw[ht]at h1;have hki:Q0z (ixE e):=fun j y hy=>by
   rw[Qaf]at hy;cases he:e[j]? with
   |none=>rw[he]at hy;cases hy
   |some z=>
    rw[he]at hy;simp at hy;subst hy;exact hk j z he
  have hxi:(ixE e)[i]?=some { x with n:=(i:Nat) }:=by rw[Qaf,hx];rfl
  rw[Q4p hki hxi];simp only[sumT,Qcj,Z1i];rw[Qje];have e1:ownC lts k ⟨x.op,(i:Nat),x.binds,x.kids.map (Tr.op∘fun k=>Q54 (ixE e) k.toNat),x.alts⟩=((keys (ownO t)).count k:Nat):=by unfold ownC;simp only[Qzv,h.getD ht]
  have e2:(x.kids.map (sumT (ownC lts k)∘fun k=>Q54 (ixE e) k.toNat)).sum=((keys (objss t.kids)).count k:Nat):=by rw[Qa4];cases h1;simp only[LTr.kids,Z1i];congr 1;refine Z1f fun q hq=>?_;have hq':=hk i x hx q hq;obtain⟨t',ht'⟩:=Q00 (l:=lts) (i:=q.toNat) (by rw[h.len];omega);simp only[Function.comp,h.getD ht'];exact h.count hk k n q.toNat t' zoy ht'
  rw[e1,e2];push_cast;rfl
theorem Qbz(k:Nat):∀lts:List LTr,(((keys (lts.flatMap ownO)).count k:Nat):Int)=(lts.map fun t=>(((keys (ownO t)).count k:Nat):Int)).sum
 |[]=>by simp[keys]
 |t::l=>by have:=Qbz k l;simp only[keys]at this;simp only[List.flatMap_cons,keys,Z1e,Z04,Z1g,Z2f,←this];push_cast;rfl
theorem LinkL.nodup(h:LinkL e lts B)(ht:IsTree e)(hn:(keys (lts.flatMap ownO)).Nodup){t:LTr}(hr:lts[e.length - 1]?=some t):(keys (objs t)).Nodup:=by
 rw[List.nodup_iff_count];intro k;have h1:=h.count ht.k k _ _ t (Z34 _) hr;have h2:=Q99 (ownC lts k) (Qpm ht);have h3:grow (ixE e)=Q54 (ixE e) (e.length - 1):=by unfold grow Q54;rw[Qd5]
 rw[h3,h1]at h2;have h4:((labs (ixE e)).map (ownC lts k))=lts.map fun t=>(((keys (ownO t)).count k:Nat):Int):=by
  have e1:(labs (ixE e)).map (ownC lts k)=((labs (ixE e)).map (·.n)).map fun n:Int=>(((keys (ownO (lts.getD n.toNat default))).count k:Nat):Int):=by rw[Z1i];rfl
  rw[e1,labs_n,ixE_n,Z1i];apply Z0c;intro i;by_cases hi:i < e.length
  ·obtain⟨t',ht'⟩:=Q00 (l:=lts) (i:=i) (by rw[h.len];exact hi);simp only[Z0w,List.getElem?_range hi,Z3m,Function.comp,Qzv,h.getD ht',ht']
  ·rw[Z0u zuy,Z0u (by simp[h.len];omega)]
 rw[h4,←Qbz]at h2;have h5:=List.nodup_iff_count.1 hn k;omega
theorem LinkL.ok(h:LinkL e lts)(hk:Q0z e)(hs:∀x∈e,x.binds.length<=1048576/\x.kids.length<=1048576/\x.alts.length<=1048576/\∀a∈x.alts,a.binds.length<=1048576):∀(n i:Nat)(t:LTr),i < n->lts[i]?=some t->okL t
 |0,i,t,hi,_=>by omega
 |n+1,i,t,hi,ht=>by
  have hil:i < e.length:=by rw[←h.len];exact (Z0v.1 ht).1
  obtain⟨x,hx⟩:=Q00 hil;obtain⟨id,nb,a,h1,h2,h3,h4⟩:=h.at_ i x hx;obtain⟨s1,s2,s3,s4⟩:=hs x (Z1y hx);rw[ht]at h1;cases h1;refine⟨fun _=>h3,s1,by simpa using s2,by have:=congrArg List.length h2;simp at this;omega,fun y hy=>⟨h4 y hy,?_⟩,Qhr.2 fun u hu=>?_⟩
  ·exact s4 y.er (by rw[←h2];exact Z1x hy)
  ·obtain⟨q,hq,rfl⟩:=Z1w.1 hu;have hq':=hk i x hx q hq;obtain⟨t',ht'⟩:=Q00 (l:=lts) (i:=q.toNat) (by rw[h.len];omega);rw[h.getD ht'];exact h.ok hk hs n q.toNat t' zoy ht'
end
variable {Γ:List (Nat×List AC)}
def Q2d (ts:List LTr)(n:Nat):List AC:=ts.map (fun t=>.ptr (.o t.id) 0)++List.replicate (n - ts.length) (.lit (.pointer none))
theorem Qjg(n:Nat):Q2d [] n=List.replicate n (.lit (.pointer none)):=by simp[Q2d]
theorem Qjh{ts:List LTr}(h:ts.length<=n):(Q2d ts n).length=n:=by simp[Q2d];omega
theorem Q84{ts:List LTr}{k:Nat}{t:LTr}(h:ts[k]?=some t):(Q2d ts n)[k]?=some (.ptr (.o t.id) 0):=by have hk:=(Z0v.1 h).1;unfold Q2d;rw[Z0p (by simpa using hk)];simp[h]
theorem Qjf{ts:List LTr}(h:ts.length < n)(t:LTr):(Q2d ts n).set ts.length (.ptr (.o t.id) 0)=Q2d (ts++[t]) n:=by unfold Q2d;rw[Z2d _ _ zsy];simp only[Z16,Z37,Z1e,Z1g,Z1j,Z01,Z12,Z1b];congr 1;rw[show n - ts.length=(n - (ts.length+1))+1 by omega,Z2b];rfl
theorem Qbt(p:Abs.Id->Prop)(hp:∀k,p (.o k))(ts:List LTr)(n:Nat):idsL p (Q2d ts n):=by
 refine Q7e ?_ (Qid p _ _)
 induction ts with
 |nil=>trivial
 |cons t ts ih=>exact⟨hp _,ih⟩
@[simp] theorem ids_nodesL_l (k:Nat) (ts:List LTr) (n:Nat):idsL (inL k) (Q2d ts n):=Qbt _ (fun _=>trivial) ts n
@[simp] theorem Qes (ts:List LTr) (n:Nat):idsL isO (Q2d ts n):=Qbt _ (fun _=>trivial) ts n
theorem Qm9(l:List LTr)(t:LTr):kC (l++[t])=kC l++[[.ptr (.o t.id) 0]]:=by simp[kC]
def kidsL (ts:List LTr)(ks:List Int):List LTr:=ks.map fun k=>ts.getD k.toNat default
theorem Qjo{ts:List LTr}(h:ks[i]?=some k):kidsL ts (ks.take (i+1))=kidsL ts (ks.take i)++[ts.getD k.toNat default]:=by simp[kidsL,Z2g,h]
@[simp] theorem ids_kC_l (k:Nat) (ts:List LTr):idsS (inL k) (kC ts):=ids_kC _ (fun _=>trivial) ts
@[simp] theorem Qpp (ts:List LTr):idsS isO (kC ts):=ids_kC _ (fun _=>trivial) ts
@[simp] theorem ids_lAlts_l (k:Nat) (l:List LAlt):idsS (inL k) (l.map lAlt):=Qet _ (fun _=>trivial) l
@[simp] theorem Qga (l:List LAlt):idsS isO (l.map lAlt):=Qet _ (fun _=>trivial) l
@[simp] theorem ids_bC_l (k:Nat) (nb:Nb) (l:List Int):(bC nb l).ids (inL k):=Qmo _ (fun _=>trivial) nb l
@[simp] theorem ids_bC_o (nb:Nb) (l:List Int):(bC nb l).ids isO:=Qmo _ (fun _=>trivial) nb l
@[simp] theorem ren_kC (ρ:Nat->Nat) (l:List LTr):renS ρ (kC l)=kC l:=Q25 ρ _ (Qpp l)
@[simp] theorem ren_lAlts (ρ:Nat->Nat) (l:List LAlt):renS ρ (l.map lAlt)=l.map lAlt:=Q25 ρ _ (Qga l)
@[simp] theorem ren_bC (ρ:Nat->Nat) (nb:Nb) (l:List Int):(bC nb l).ren ρ=bC nb l:=by cases nb <;> simp[bC,AC.ren,Abs.Id.ren]
theorem NewO.add{k:Nat}{o:AObj}(hk:∀m,k<=m->ou m=none)(hou:OuOk ou)(ho:o.ids isO):NewO ou (ouAdd ou k [o]) [(k,o)]:=by
 refine⟨fun p hp=>?_,fun j hj=>?_,fun m hm=>?_,Q64 hou fun q hq=>by simp at hq;subst hq;exact ho,by simp[keys]⟩
 ·simp at hp;subst hp;exact Q0o 0
 ·simp[keys]at hj;subst hj;exact hk _ (Z30 _)
 ·simp[keys]at hm;rcases Z33 m k with h1|h1
  ·exact Q14 h1
  ·obtain⟨p,rfl⟩:∃p,m=k+p:=⟨m - k,by omega⟩;rw[Q0o,hk _ h1];cases p with
   |zero=>simp at hm
   |succ p=>simp
end Go.Proofs.YtlmokgooijbcdaaGreatDoor
namespace Go.CoreX
end Go.CoreX
namespace Go.Proofs.YtlmokgooijbcdaaGreatDoor
variable {Γ:List (Nat×List AC)}
end Go.Proofs.YtlmokgooijbcdaaGreatDoor
namespace Go.CoreX
-- What holds of all nodes.
mutual
def allT (p:Lab->Prop):Tr->Prop
 |.mk o n b k a=>p ⟨o,n,b,k.map Tr.op,a⟩/\allTs p k
def allTs (p:Lab->Prop):List Tr->Prop
 |[]=>True
 |t::l=>allT p t/\allTs p l
end
theorem Qaz{p:Lab->Prop}:∀{l:List Tr},allTs p l↔∀t∈l,allT p t
 |[]=>by simp[allTs]
 |t::l=>by simp[allTs,Qaz (l:=l)]
theorem Qnt{e:List Ex}(hk:Q0z e){p:Lab->Prop}(h:∀x∈e,p (labE e x)):∀(n i:Nat),i < n->i < e.length->allT p (Q54 e i)
 |0,i,hi,_=>by omega
 |n+1,i,hi,hl=>by
  obtain⟨x,hx⟩:∃x,e[i]?=some x:=⟨e[i],Z0t hl⟩;rw[Q4p hk hx];refine⟨?_,Qaz.2 fun t ht=>?_⟩
  ·have:=h x (Z1y hx);simp only[labE]at this;simp only[Z1i];exact this
  ·obtain⟨q,hq,rfl⟩:=Z1w.1 ht;have:=hk i x hx q hq;exact Qnt hk h n q.toNat zoy zoy
theorem Qb1(h:IsTree e){p:Lab->Prop}(hp:∀x∈e,p (labE e x)):allT p (grow e):=by have:=Z18.2 h.ne;exact Qnt h.k hp _ (e.length - 1) (Z34 _) zoy
structure ShN (o n:Int)(b:List Int)(k:Nat)(a:List Alt):Prop where
 sh:∃ops:List Int,ops.length=k/\shape ⟨o,n,b,ops,a⟩=true
section
variable {o n:Int}{b:List Int}{k:Nat}{a:List Alt}
theorem ShN.want(h:ShN o n b k a)(h7:¬(o=7∨o=13)):∃w:Int×Int×Bool,(∃ops:List Int,ops.length=k/\wants ⟨o,n,b,ops,a⟩=some w)/\(k:Int)=w.1/\(b.length:Int)=w.2.1/\a=[]:=by
 obtain⟨ops,hl,h⟩:=h.sh;unfold shape at h;rw[if_neg h7]at h;split at h
 ·cases h
 ·rename_i kk bb u hw;simp only[Qzc,beq_iff_eq,Z15]at h;exact⟨_,⟨ops,hl,hw⟩,by rw[←hl];exact h.1.1.1,h.1.1.2,h.1.2⟩
theorem ShN.lam(h:ShN 2 n b k a):k=1/\a=[]:=by obtain⟨w,⟨ops,hl,hw⟩,h1,h2,h3⟩:=h.want zoy;cases hw;exact⟨by simp at h1;omega,h3⟩
theorem ShN.app(h:ShN 3 n b k a):1<=k/\b=[]/\a=[]:=by obtain⟨w,⟨ops,hl,hw⟩,h1,h2,h3⟩:=h.want zoy;cases hw;refine⟨?_,Z15.1 (by simp at h2;simp[h2]),h3⟩;simp only at h1;split at h1 <;> omega
theorem ShN.lett(h:ShN 4 n b k a):k=2/\b.length=1/\a=[]:=by obtain⟨w,⟨ops,hl,hw⟩,h1,h2,h3⟩:=h.want zoy;cases hw;exact⟨by simp at h1;omega,by simp at h2;omega,h3⟩
theorem ShN.recs(h:ShN 5 n b k a):k=b.length+1/\1<=b.length/\a=[]:=by obtain⟨w,⟨ops,hl,hw⟩,h1,h2,h3⟩:=h.want zoy;cases hw;refine⟨by simp at h1;omega,?_,h3⟩;simp only at h2;split at h2 <;> omega
theorem ShN.prim(h:ShN 8 n b k a):0<=n/\n<=11/\(k:Int)=Q5u.getD n.toNat 0/\b=[]/\a=[]:=by
 obtain⟨w,⟨ops,hl,hw⟩,h1,h2,h3⟩:=h.want zoy;have hw:(if between n 0 11=true then some (Q5u.getD n.toNat 0,(0:Int),true)else none)=some w:=hw;split at hw
 ·rename_i hb;cases hw;simp[between]at hb;exact⟨hb.1,hb.2,h1,Z15.1 (by simp at h2;simp[h2]),h3⟩
 ·cases hw
theorem ShN.row(h:ShN 9 n b k a):k=b.length/\a=[]:=by obtain⟨w,⟨ops,hl,hw⟩,h1,h2,h3⟩:=h.want zoy;cases hw;exact⟨by simp at h1;omega,h3⟩
theorem ShN.one(h:ShN o n b k a)(ho:o=10∨o=12∨o=16):k=1/\b=[]/\a=[]:=by obtain⟨w,⟨ops,hl,hw⟩,h1,h2,h3⟩:=h.want zoy;rcases ho with rfl|rfl|rfl <;> (cases hw;exact⟨by simp at h1;omega,Z15.1 (by simp at h2;simp[h2]),h3⟩)
theorem ShN.two(h:ShN 11 n b k a):k=2/\b=[]/\a=[]:=by obtain⟨w,⟨ops,hl,hw⟩,h1,h2,h3⟩:=h.want zoy;cases hw;exact⟨by simp at h1;omega,Z15.1 (by simp at h2;simp[h2]),h3⟩
theorem ShN.alts7(h:ShN o n b k a)(ho:o=7∨o=13):k=1+a.length/\b=[]/\(o=13->1<=a.length)/\∀i x,a[i]?=some x->Q5a ⟨o,n,b,[],a⟩ i x=false:=by
 obtain⟨ops,hl,h⟩:=h.sh;unfold shape at h;rw[if_pos ho]at h;simp only[Qzc,beq_iff_eq,Z15]at h;obtain⟨⟨h1,h2⟩,h3⟩:=h;unfold Q7s at h1;simp only[Qzc,Qzh,beq_iff_eq,Qzk,decide_eq_true_eq]at h1;obtain⟨h4,h5,h6⟩:=h1;refine⟨by omega,h2,fun h13=>?_,fun i x hx=>?_⟩
 ·rcases h6 with h6|h6
  ·subst h13;cases h6
  ·omega
 ·rw[Qzz]at h4;have:=h4 (x,i) (by rw[List.mk_mem_zipIdx_iff_getElem?];exact hx);simpa[Q5a]using this
theorem ShN.case(h:ShN 7 n b k a):k=1+a.length/\b=[]:=⟨(h.alts7 (.inl rfl)).1,(h.alts7 (.inl rfl)).2.1⟩
theorem ShN.handle(h:ShN 13 n b k a):k=1+a.length/\b=[]/\1<=a.length/\∀i x,a[i]?=some x->(i=0↔x.tag=-1)/\x.binds.length=if i=0 then 1 else 2:=by
 obtain⟨h1,h2,h3,h4⟩:=h.alts7 (.inr rfl);refine⟨h1,h2,h3 rfl,fun i x hx=>?_⟩;have:=h4 i x hx;simp only[Q5a,Qzj,Bool.and_eq_false_iff,Bool.not_eq_false',beq_iff_eq,beq_eq_false_iff_ne]at this;obtain⟨_,h5,h6⟩:=this;refine⟨?_,?_⟩
 ·rcases h5 with h5|h5
  ·exact absurd rfl h5
  ·by_cases hi:i=0
   ·subst hi;simpa using h5
   ·have:((i:Int)==0)=false:=by simp[hi]
    rw[this]at h5;simp[hi]at h5 ⊢;exact h5
 ·rcases h6 with h6|h6
  ·exact absurd rfl h6
  ·split at h6
   ·rw[if_neg zoy];omega
   ·rename_i hh;have:i=0∨i=1:=by omega
    rcases this with rfl|rfl <;> simp <;> omega
end
def shpQ (l:Lab):Prop:=ShN l.op l.n l.binds l.ops.length l.alts
theorem Qkz{t:Tr}(h:allT shpQ t):ShN t.op t.n t.binds t.kids.length t.alts:=by
 cases t with
 |mk o n b k a=>simpa[shpQ]using h.1
theorem Qdo{p:Lab->Prop}{t s:Tr}(h:allT p t)(hs:s∈t.kids):allT p s:=by
 cases t with
 |mk o n b k a=>exact Qaz.1 h.2 s hs
theorem Q3r{p:Lab->Prop}{t:Tr}(h:allT p t)(hi:i < t.kids.length):allT p (t.kids.getD i default):=by rw[Z0o,Z0t hi];exact Qdo h (Z11 hi)
theorem Q1u{p:Lab->Prop}{t:Tr}(h:allT p t):p ⟨t.op,t.n,t.binds,t.kids.map Tr.op,t.alts⟩:=by
 cases t with
 |mk o n b k a=>exact h.1
mutual
theorem Qdp{p q:Lab->Prop}(h:∀l,p l->q l):∀t:Tr,allT p t->allT q t
 |.mk o n b k a,ht=>⟨h _ ht.1,Qfg h k ht.2⟩
theorem Qfg{p q:Lab->Prop}(h:∀l,p l->q l):∀l:List Tr,allTs p l->allTs q l
 |[],_=>trivial
 |t::l,ht=>⟨Qdp h t ht.1,Qfg h l ht.2⟩
end
theorem shpQ_of{l:Lab}(h:shape ⟨l.op,l.n,l.binds,l.ops,l.alts⟩=true):shpQ l:=⟨⟨l.ops,rfl,h⟩⟩
end Go.CoreX
namespace Go.CoreX
-- Names that a tree does not bind keep their new names.
def tl (a:Alt):Int×Nat:=(a.tag,a.binds.length)
def pLab (l:Lab):Prop:=∀(e:List Ex)(x:Ex),(∀k∈x.kids,0<=k/\k < (e.length:Int))->labE e x=l->Q0i false e x=0
theorem sum0{α:Type}{f:α->Int}:∀{l:List α},(∀x∈l,0<=f x)->(l.map f).sum=0->∀x∈l,f x=0
 |[],_,_,x,hx=>by simp at hx
 |y::l,h,hs,x,hx=>by
  have h1:=h y zsy;have h2:∀z∈l,0<=f z:=fun z hz=>h z (by simp[hz]);have h3:0<=(l.map f).sum:=by
   clear h h1 hs hx
   induction l with
   |nil=>simp
   |cons z l ih=>
    have:=h2 z zsy;have:=ih fun y hy=>h2 y (by simp[hy]);simp only[Z1g,Z2f];omega
  simp only[Z1g,Z2f]at hs;rcases Z1p.1 hx with rfl|hx
  ·omega
  ·exact sum0 h2 zoy x hx
open Classical in
mutual
theorem Qkp{p:Lab->Prop}:∀t:Tr,allT p t->sumT (fun l=>if p l then 0 else 1) t=0
 |.mk o n b k a,h=>by simp only[sumT,Qh6 k h.2];rw[if_pos h.1];rfl
theorem Qh6{p:Lab->Prop}:∀l:List Tr,allTs p l->sumTs (fun l=>if p l then 0 else 1) l=0
 |[],_=>rfl
 |t::l,h=>by simp only[sumTs,Qkp t h.1,Qh6 l h.2];rfl
end
open Classical in
theorem Qb0{p:Lab->Prop}(h:IsTree g)(ha:allT p (grow g)):∀l∈labs g,p l:=by
 have h1:=Q99 (fun l=>if p l then (0:Int)else 1) h;rw[Qkp _ ha]at h1;intro l hl;have:=sum0 (fun x _=>by split <;> omega) h1 l hl;split at this
 ·assumption
 ·cases this
theorem Q43(h:check e=0):Q1d e=0/\(∀x∈e,Q0i false e x=0)/\(Q08 e).Nodup/\occT [] (grow e)=[]:=by
 unfold check body at h;by_cases h1:Q1d e=0
 ·rw[if_neg (by simpa using h1)]at h;by_cases h2:Q1r (Q0i false e) e=0
  ·rw[if_neg (by simpa using h2)]at h;by_cases h3:Q4b ([]++Q08 e)=true
   ·rw[if_pos h3]at h;cases h
   ·rw[if_neg h3]at h;have h3':=(Q1o _).1 (by simpa using h3);refine⟨h1,(Q2c _ _).1 h2,by simpa using h3',?_⟩;by_cases h4:(Q41 (grow e)).all (fun n=>([]:List Int).contains n)=true
    ·have h5:Q41 (grow e)=[]:=by
      cases hf:Q41 (grow e) with
      |nil=>rfl
      |cons n l=>rw[hf]at h4;simp at h4
     unfold Q41 at h5;cases ho:occT [] (grow e) with
     |nil=>rfl
     |cons n l=>
      have:=(Q72 n (n::l)).2 zsy;rw[←ho,h5]at this;simp at this
    ·rw[if_neg h4]at h;cases h
  ·rw[if_pos (by simpa using h2)]at h;exact absurd h h2
 ·rw[if_pos h1]at h;exact absurd h h1
theorem Qq0(h1:Q1d e=0)(h2:∀x∈e,Q0i false e x=0)(h3:(Q08 e).Nodup)(h4:occT [] (grow e)=[]):check e=0:=by unfold check body;rw[if_neg (by simpa using h1),if_neg (by simpa using (Q2c _ _).2 h2),if_neg (by rw[(Q1o _).2 (by simpa using h3)];simp),if_pos];unfold Q41;rw[h4];rfl
end Go.CoreX
namespace Go.Proofs.YtlmokgooijbcdaaGreatDoor
variable {Γ:List (Nat×List AC)}
end Go.Proofs.YtlmokgooijbcdaaGreatDoor
namespace Go.CoreX
structure pOk (l:Lab):Prop where
 b:l.binds.length<=1048576
 k:l.ops.length<=1048576
 a:l.alts.length<=1048576
 ab:∀x∈l.alts,x.binds.length<=1048576
 s:l.binds.length+(l.alts.flatMap (·.binds)).length<=4194304
-- Two lists in order, with the same members, are one list.
end Go.CoreX
namespace Go.Proofs.YtlmokgooijbcdaaGreatDoor
theorem Qjd(hl:g.length<=1048576)(h:∀l∈labs g,pOk l):okB g:=by
 refine⟨⟨hl,fun x hx=>?_⟩,fun x hx=>?_⟩
 ·have:=h _ (Z1x (f:=labE g) hx);exact⟨this.b,by simpa[labE]using this.k,this.a,this.ab⟩
 ·exact (h _ (Z1x (f:=labE g) hx)).s
end Go.Proofs.YtlmokgooijbcdaaGreatDoor
namespace Go.CoreX
mutual
theorem Q81:∀t:Tr,okT t->allT pOk t
 |.mk o n b k a,h=>⟨⟨h.1,by simpa using h.2.1,h.2.2.1,h.2.2.2.1.1,h.2.2.2.1.2⟩,Qhp k h.2.2.2.2⟩
theorem Qhp:∀l:List Tr,okTs l->allTs pOk l
 |[],_=>trivial
 |t::l,h=>⟨Q81 t h.1,Qhp l h.2⟩
end
end Go.CoreX
namespace Go.Proofs.YtlmokgooijbcdaaGreatDoor
theorem Q7a{T:Tr}(h:allT pOk T)(hl:cntN T<=1048576):okB (listT [] T):=Qjd (by have:=Q42 T [];simp at this;omega) (Qb0 (Q40 _) (by rw[Q2y];exact h))
end Go.Proofs.YtlmokgooijbcdaaGreatDoor
