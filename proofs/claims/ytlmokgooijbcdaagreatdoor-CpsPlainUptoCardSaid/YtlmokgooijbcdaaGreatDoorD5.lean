/- The base of this proof, part 5. No condition. -/
import Derived.Test.YtlmokgooijbcdaaGreatDoorD4
import Derived.LaidEqlPtr
import Derived.KernelRfl
import Derived.Test.YtlmokgooijbcdaaGreatDoorRows
import Derived.Lib.LaidTab
import Derived.Lib.TrailingZeros
import Derived.Shelf.Spec.TrailingZeros
set_option maxRecDepth 10000
set_option maxHeartbeats 4000000
set_option linter.unusedVariables false
set_option linter.unusedSimpArgs false
theorem Z3a:type_of% @Go.Lib.lowest_bit:=@Go.Lib.lowest_bit
theorem Z41:type_of% @List.getD_cons_zero:=@List.getD_cons_zero
theorem Z5d:type_of% @List.mem_of_mem_drop:=@List.mem_of_mem_drop
theorem Z5m:type_of% @List.not_mem_nil:=@List.not_mem_nil
theorem Z6y:type_of% @Option.some.inj:=@Option.some.inj
open List renaming count_append->Z3h,count_cons->Z3i,getElem?_eq_none->Z48,length_eq_zero_iff->Z4j,map_map->Z4w,mem_singleton->Z5h
open Nat renaming and_le_right->Z65
open Option renaming getD_some->Z6t
open Go.Proofs.Tryz renaming func111->Z77,func113->Z78,func173->Z7a
open Go Go.Abs Go.CoreX
variable {i k g n' q kt0:Nat}{B:Nb->List Int->Prop}{x y:Operand}{a fu:Int}{ts:List LTr}{ou ou1 ou2 ou' ou0:Q03}{o:Oper}{p:Lab->Prop}{s:Tr}{α H:Type}{l:List α}{b:List Int}{C:Ctx}{v:Value}{c ec vc kc:AC}{cs:List (List AC)}{mc mc':List AC}{E:Env}{K:Cont}{fr:Fr}{σ σ':St}{L:List (Nat×Nat)}{args:List FV}{tj:TI}{hi:Bool}{yt:TypeId}
namespace Go.CoreX
theorem Qlu:∀{e f:List Ex},e.map (·.kids)=f.map (·.kids)->∀i,cnt e i=cnt f i
 |[],[],_,_=>rfl
 |[],_::_,h,_=>by simp at h
 |_::_,[],h,_=>by simp at h
 |x::e,y::f,h,i=>by simp only[Z4t,List.cons.injEq]at h;simp only[cnt,h.1,Qlu h.2 i]
def ixE (e:List Ex):List Ex:=e.mapIdx fun i x=>{ x with n:=(i:Nat) }
theorem Qco{e:List Ex}:(ixE e)[i]?=(e[i]?).map fun x=>{ x with n:=(i:Nat) }:=by simp[ixE]
theorem Qt6(e:List Ex):(ixE e).map (·.kids)=e.map (·.kids):=by apply Z3p;intro i;simp only[Z4a,Qco];cases e[i]? <;> rfl
theorem Qfp(e:List Ex):(ixE e).length=e.length:=by simp[ixE]
theorem Qt5{e:List Ex}(h:IsTree e):IsTree (ixE e):=by
 refine⟨fun e0=>h.ne (by have:=Qfp e;rw[e0]at this;exact Z4j.1 (by simpa using this.symm)),fun j x hx=>?_,fun i hi=>?_⟩
 ·rw[Qco]at hx;cases he:e[j]? with
  |none=>rw[he]at hx;cases hx
  |some y=>
   rw[he]at hx;simp at hx;subst hx;exact h.k j y he
 ·rw[Qlu (Qt6 e),Qfp];exact h.c i (by rw[Qfp]at hi;exact hi)
theorem labs_n(e:List Ex):(labs e).map (·.n)=e.map (·.n):=by simp[labs,labE]
theorem ixE_n(e:List Ex):(ixE e).map (·.n)=(List.range e.length).map fun i:Nat=>(i:Int):=by
 apply Z3p;intro i;simp only[Z4a,Qco];by_cases h:i < e.length
 ·simp[h]
 ·simp[h]
end Go.CoreX
namespace Go.Proofs.YtlmokgooijbcdaaGreatDoor
def ownO:LTr->List (Nat×AObj)
 |.mk i o n nb b k a=>(bO nb b++aO a)++[(i,.cells [int o,int n,bC nb b,.sl 1 (kC k),.sl 2 (a.map lAlt)])]
theorem Qkw:∀(t:LTr)(p:Nat×AObj),p∈objs t↔p∈ownO t∨p∈Q46 t.kids
 |.mk i o n nb b k a,p=>by
  simp only[objs,ownO,LTr.kids,Z3g,Z53,Z50,Z5m,or_false];constructor
  ·rintro (h|(h|h)|h) <;> simp[h]
  ·rintro (((h|h)|h)|h) <;> simp[h]
theorem Qmf(k:Nat):∀t:LTr,(keys (objs t)).count k=(keys (ownO t)).count k+(keys (Q46 t.kids)).count k
 |.mk i o n nb b ks a=>by simp only[objs,ownO,LTr.kids,keys,Z4t,Z4r,Z3g,Z3i,Z3h,Z4x,List.count_nil];omega
structure LinkL (e:List Ex)(lts:List LTr)(B:Nb->List Int->Prop:=ownB):Prop where
 len:lts.length=e.length
 at_:∀(i:Nat) (x:Ex),e[i]?=some x->∃id nb a,lts[i]?=some (.mk id x.op x.n nb x.binds (x.kids.map fun q=>lts.getD q.toNat default) a)/\a.map LAlt.er=x.alts/\B nb x.binds/\∀y∈a,B y.nb y.binds
theorem LinkL.nil:LinkL [] [] B:=⟨rfl,fun i x h=>by simp at h⟩
theorem LinkL.snoc{e:List Ex}{lts:List LTr}(h:LinkL e lts B)(hk:Q1d e){x:Ex}(hx:∀q∈x.kids,0<=q/\q < (e.length:Int)){id:Nat}{nb:Nb}{a:List LAlt}(ha:a.map LAlt.er=x.alts)(hb:B nb x.binds)(hab:∀y∈a,B y.nb y.binds):
  LinkL (e++[x]) (lts++[.mk id x.op x.n nb x.binds (x.kids.map fun q=>lts.getD q.toNat default) a]) B:=by
 have hgd:∀(q:Int),0<=q->q < (e.length:Int)->∀t,(lts++[t]).getD q.toNat default=lts.getD q.toNat default:=fun q h0 h1 t=>Qbk (by rw[h.len];omega);refine⟨by simp[h.len],fun i y hy=>?_⟩;by_cases hi:i < e.length
 ·rw[Z43 hi]at hy;obtain⟨id',nb',a',h1,h2,h3,h4⟩:=h.at_ i y hy;refine⟨id',nb',a',?_,h2,h3,h4⟩;rw[Z43 (by rw[h.len];exact hi),h1];congr 2;refine Z4s fun q hq=>?_;have:=hk i y hy q hq;exact (hgd q this.1 zoy _).symm
 ·have hie:i=e.length:=by have:=(Z49.1 hy).1;simp at this;omega
  subst hie;simp at hy;subst hy;refine⟨id,nb,a,?_,ha,hb,hab⟩;rw[←h.len,Z44 zsy];simp only[Z6i,Z45];congr 2;exact Z4s fun q hq=>(hgd q (hx q hq).1 (hx q hq).2 _).symm
section
variable {e:List Ex}{lts:List LTr}{B:Nb->List Int->Prop}
theorem LinkL.getD(h:LinkL e lts B){i:Nat}{t:LTr}(ht:lts[i]?=some t):lts.getD i default=t:=by rw[Z42,ht];rfl
theorem LinkL.er(h:LinkL e lts B)(hk:Q1d e):∀(n i:Nat)(t:LTr),i < n->lts[i]?=some t->erT t=Q67 e i
 |0,i,t,hi,_=>by omega
 |n+1,i,t,hi,ht=>by
  have hil:i < e.length:=by rw[←h.len];exact (Z49.1 ht).1
  obtain⟨x,hx⟩:=Q02 hil;obtain⟨id,nb,a,h1,h2,_⟩:=h.at_ i x hx;rw[ht]at h1;cases h1;rw[Q5u hk hx];simp only[erT,h2,Q2s,Z4w];congr 1;refine Z4s fun q hq=>?_;have hq':=hk i x hx q hq;obtain⟨t',ht'⟩:=Q02 (l:=lts) (i:=q.toNat) (by rw[h.len];omega);simp only[Function.comp,h.getD ht'];exact h.er hk n q.toNat t' zoy ht'
theorem LinkL.own(h:LinkL e lts B)(hk:Q1d e):∀(n i:Nat)(t:LTr),i < n->lts[i]?=some t->∀p∈objs t,p∈lts.flatMap ownO
 |0,i,t,hi,_=>by omega
 |n+1,i,t,hi,ht=>fun p hp=>by
  have hil:i < e.length:=by rw[←h.len];exact (Z49.1 ht).1
  obtain⟨x,hx⟩:=Q02 hil;obtain⟨id,nb,a,h1,_⟩:=h.at_ i x hx;rw[ht]at h1;rcases (Qkw t p).1 hp with hp|hp
  ·exact Z58.2 ⟨t,Z5c ht,hp⟩
  ·cases h1;simp only[LTr.kids,Qfe]at hp;obtain⟨u,hu,hpu⟩:=Z58.1 hp;obtain⟨q,hq,rfl⟩:=Z5a.1 hu;have hq':=hk i x hx q hq;obtain⟨t',ht'⟩:=Q02 (l:=lts) (i:=q.toNat) (by rw[h.len];omega);rw[h.getD ht']at hpu;exact h.own hk n q.toNat t' zoy ht' p hpu
def ownC (lts:List LTr)(k:Nat)(l:Lab):Int:=((keys (ownO (lts.getD l.n.toNat default))).count k:Nat)
theorem Qcc(k:Nat):∀l:List LTr,(((keys (Q46 l)).count k:Nat):Int)=(l.map fun t=>(((keys (objs t)).count k:Nat):Int)).sum
 |[]=>by simp[Q46,keys]
 |t::l=>by have:=Qcc k l;simp only[keys]at this;simp only[Q46,keys,Z4r,Z3h,Z4t,Z5s,←this];push_cast;rfl
theorem LinkL.count(h:LinkL e lts B)(hk:Q1d e)(k:Nat):∀(n i:Nat)(t:LTr),i < n->lts[i]?=some t->sumT (ownC lts k) (Q67 (ixE e) i)=((keys (objs t)).count k:Nat)
 |0,i,t,hi,_=>by omega
 |n+1,i,t,hi,ht=>by
  have hil:i < e.length:=by rw[←h.len];exact (Z49.1 ht).1
  obtain⟨x,hx⟩:=Q02 hil;obtain⟨id,nb,a,h1,_⟩:=h.at_ i x hx;rw[ht]at h1;have hki:Q1d (ixE e):=fun j y hy=>by
   rw[Qco]at hy;cases he:e[j]? with
   |none=>rw[he]at hy;cases hy
   |some z=>
    rw[he]at hy;simp at hy;subst hy;exact hk j z he
  have hxi:(ixE e)[i]?=some { x with n:=(i:Nat) }:=by rw[Qco,hx];rfl
  rw[Q5u hki hxi];simp only[sumT,Qex,Z4w];rw[Qmf];have e1:ownC lts k ⟨x.op,(i:Nat),x.binds,x.kids.map (Tr.op∘fun k=>Q67 (ixE e) k.toNat),x.alts⟩=((keys (ownO t)).count k:Nat):=by unfold ownC;simp only[Z38,h.getD ht]
  have e2:(x.kids.map (sumT (ownC lts k)∘fun k=>Q67 (ixE e) k.toNat)).sum=((keys (Q46 t.kids)).count k:Nat):=by rw[Qcc];cases h1;simp only[LTr.kids,Z4w];congr 1;refine Z4s fun q hq=>?_;have hq':=hk i x hx q hq;obtain⟨t',ht'⟩:=Q02 (l:=lts) (i:=q.toNat) (by rw[h.len];omega);simp only[Function.comp,h.getD ht'];exact h.count hk k n q.toNat t' zoy ht'
  rw[e1,e2];push_cast;rfl
theorem Qeb(k:Nat):∀lts:List LTr,(((keys (lts.flatMap ownO)).count k:Nat):Int)=(lts.map fun t=>(((keys (ownO t)).count k:Nat):Int)).sum
 |[]=>by simp[keys]
 |t::l=>by have:=Qeb k l;simp only[keys]at this;simp only[Z3v,keys,Z4r,Z3h,Z4t,Z5s,←this];push_cast;rfl
theorem LinkL.nodup(h:LinkL e lts B)(ht:IsTree e)(hn:(keys (lts.flatMap ownO)).Nodup){t:LTr}(hr:lts[e.length - 1]?=some t):(keys (objs t)).Nodup:=by
 rw[List.nodup_iff_count];intro k;have h1:=h.count ht.k k _ _ t (Z6f _) hr;have h2:=Qb8 (ownC lts k) (Qt5 ht);have h3:grow (ixE e)=Q67 (ixE e) (e.length - 1):=by unfold grow Q67;rw[Qfp]
 rw[h3,h1]at h2;have h4:((labs (ixE e)).map (ownC lts k))=lts.map fun t=>(((keys (ownO t)).count k:Nat):Int):=by
  have e1:(labs (ixE e)).map (ownC lts k)=((labs (ixE e)).map (·.n)).map fun n:Int=>(((keys (ownO (lts.getD n.toNat default))).count k:Nat):Int):=by rw[Z4w];rfl
  rw[e1,labs_n,ixE_n,Z4w];apply Z3p;intro i;by_cases hi:i < e.length
  ·obtain⟨t',ht'⟩:=Q02 (l:=lts) (i:=i) (by rw[h.len];exact hi);simp only[Z4a,List.getElem?_range hi,Z6x,Function.comp,Z38,h.getD ht',ht']
  ·rw[Z48 zuy,Z48 (by simp[h.len];omega)]
 rw[h4,←Qeb]at h2;have h5:=List.nodup_iff_count.1 hn k;omega
theorem LinkL.ok(h:LinkL e lts)(hk:Q1d e)(hs:∀x∈e,x.binds.length<=1048576/\x.kids.length<=1048576/\x.alts.length<=1048576/\∀a∈x.alts,a.binds.length<=1048576):∀(n i:Nat)(t:LTr),i < n->lts[i]?=some t->okL t
 |0,i,t,hi,_=>by omega
 |n+1,i,t,hi,ht=>by
  have hil:i < e.length:=by rw[←h.len];exact (Z49.1 ht).1
  obtain⟨x,hx⟩:=Q02 hil;obtain⟨id,nb,a,h1,h2,h3,h4⟩:=h.at_ i x hx;obtain⟨s1,s2,s3,s4⟩:=hs x (Z5c hx);rw[ht]at h1;cases h1;refine⟨fun _=>h3,s1,by simpa using s2,by have:=congrArg List.length h2;simp at this;omega,fun y hy=>⟨h4 y hy,?_⟩,Qks.2 fun u hu=>?_⟩
  ·exact s4 y.er (by rw[←h2];exact Z5b hy)
  ·obtain⟨q,hq,rfl⟩:=Z5a.1 hu;have hq':=hk i x hx q hq;obtain⟨t',ht'⟩:=Q02 (l:=lts) (i:=q.toNat) (by rw[h.len];omega);rw[h.getD ht'];exact h.ok hk hs n q.toNat t' zoy ht'
end
variable {Γ:List (Nat×List AC)}
def Q30 (ts:List LTr)(n:Nat):List AC:=ts.map (fun t=>.ptr (.o t.id) 0)++List.replicate (n - ts.length) (.lit (.pointer none))
theorem Qmi(n:Nat):Q30 [] n=List.replicate n (.lit (.pointer none)):=by simp[Q30]
theorem Qmj{n:Nat}(h:ts.length<=n):(Q30 ts n).length=n:=by simp[Q30];omega
theorem Q9w{n:Nat}{t:LTr}(h:ts[k]?=some t):(Q30 ts n)[k]?=some (.ptr (.o t.id) 0):=by have hk:=(Z49.1 h).1;unfold Q30;rw[Z43 (by simpa using hk)];simp[h]
theorem Qmh{n:Nat}(h:ts.length < n)(t:LTr):(Q30 ts n).set ts.length (.ptr (.o t.id) 0)=Q30 (ts++[t]) n:=by unfold Q30;rw[List.set_append_right _ _ zsy];simp only[Z4k,Z6i,Z4r,Z4t,Z4x,Z3e,Z4g,Z4o];congr 1;rw[show n - ts.length=(n - (ts.length+1))+1 by omega,Z5p];rfl
theorem Qe5(p:Abs.Id->Prop)(hp:∀k,p (.o k))(ts:List LTr)(n:Nat):idsL p (Q30 ts n):=by
 refine Q8y ?_ (Qld p _ _)
 induction ts with
 |nil=>trivial
 |cons t ts ih=>exact⟨hp _,ih⟩
@[simp] theorem ids_nodesL_l (k:Nat) (ts:List LTr) (n:Nat):idsL (inL k) (Q30 ts n):=Qe5 _ (fun _=>trivial) ts n
@[simp] theorem Qhe (ts:List LTr) (n:Nat):idsL isO (Q30 ts n):=Qe5 _ (fun _=>trivial) ts n
theorem Qpo(l:List LTr)(t:LTr):kC (l++[t])=kC l++[[.ptr (.o t.id) 0]]:=by simp[kC]
def Q5m (ts:List LTr)(ks:List Int):List LTr:=ks.map fun k=>ts.getD k.toNat default
theorem Qmt{ks:List Int}{k:Int}(h:ks[i]?=some k):Q5m ts (ks.take (i+1))=Q5m ts (ks.take i)++[ts.getD k.toNat default]:=by simp[Q5m,Z5t,h]
@[simp] theorem ids_kC_l (k:Nat) (ts:List LTr):idsS (inL k) (kC ts):=ids_kC _ (fun _=>trivial) ts
@[simp] theorem Qt8 (ts:List LTr):idsS isO (kC ts):=ids_kC _ (fun _=>trivial) ts
@[simp] theorem ids_lAlts_l (k:Nat) (l:List LAlt):idsS (inL k) (l.map lAlt):=Qhf _ (fun _=>trivial) l
@[simp] theorem Qj6 (l:List LAlt):idsS isO (l.map lAlt):=Qhf _ (fun _=>trivial) l
@[simp] theorem ids_bC_l (k:Nat) (nb:Nb) (l:List Int):(bC nb l).ids (inL k):=Qq3 _ (fun _=>trivial) nb l
@[simp] theorem ids_bC_o (nb:Nb) (l:List Int):(bC nb l).ids isO:=Qq3 _ (fun _=>trivial) nb l
@[simp] theorem ren_kC (ρ:Nat->Nat) (l:List LTr):renS ρ (kC l)=kC l:=Q2r ρ _ (Qt8 l)
@[simp] theorem ren_lAlts (ρ:Nat->Nat) (l:List LAlt):renS ρ (l.map lAlt)=l.map lAlt:=Q2r ρ _ (Qj6 l)
@[simp] theorem ren_bC (ρ:Nat->Nat) (nb:Nb) (l:List Int):(bC nb l).ren ρ=bC nb l:=by cases nb <;> simp[bC,AC.ren,Abs.Id.ren]
theorem NewO.add{o:AObj}(hk:∀m,k<=m->ou m=none)(hou:OuOk ou)(ho:o.ids isO):NewO ou (Q1i ou k [o]) [(k,o)]:=by
 refine⟨fun p hp=>?_,fun j hj=>?_,fun m hm=>?_,Q7f hou fun q hq=>by simp at hq;subst hq;exact ho,by simp[keys]⟩
 ·simp at hp;subst hp;exact Q10 0
 ·simp[keys]at hj;subst hj;exact hk _ (Z6b _)
 ·simp[keys]at hm;rcases Z6e m k with h1|h1
  ·exact Q1l h1
  ·obtain⟨p,rfl⟩:∃p,m=k+p:=⟨m - k,by omega⟩;rw[Q10,hk _ h1];cases p with
   |zero=>simp at hm
   |succ p=>simp
end Go.Proofs.YtlmokgooijbcdaaGreatDoor
namespace Go.CoreX
end Go.CoreX
namespace Go.Proofs.YtlmokgooijbcdaaGreatDoor
variable {Γ:List (Nat×List AC)}
end Go.Proofs.YtlmokgooijbcdaaGreatDoor
namespace Go.CoreX
mutual
def allT (p:Lab->Prop):Tr->Prop
 |.mk o n b k a=>p ⟨o,n,b,k.map Tr.op,a⟩/\allTs p k
def allTs (p:Lab->Prop):List Tr->Prop
 |[]=>True
 |t::l=>allT p t/\allTs p l
end
theorem Q5s{p:Lab->Prop}:∀{l:List Tr},allTs p l↔∀t∈l,allT p t
 |[]=>by simp[allTs]
 |t::l=>by simp[allTs,Q5s (l:=l)]
theorem Qr7{e:List Ex}(hk:Q1d e){p:Lab->Prop}(h:∀x∈e,p (labE e x)):∀(n i:Nat),i < n->i < e.length->allT p (Q67 e i)
 |0,i,hi,_=>by omega
 |n+1,i,hi,hl=>by
  obtain⟨x,hx⟩:∃x,e[i]?=some x:=⟨e[i],Z47 hl⟩;rw[Q5u hk hx];refine⟨?_,Q5s.2 fun t ht=>?_⟩
  ·have:=h x (Z5c hx);simp only[labE]at this;simp only[Z4w];exact this
  ·obtain⟨q,hq,rfl⟩:=Z5a.1 ht;have:=hk i x hx q hq;exact Qr7 hk h n q.toNat zoy zoy
theorem Q9i{e:List Ex}(h:IsTree e)(hp:∀x∈e,p (labE e x)):allT p (grow e):=by have:=Z4m.2 h.ne;exact Qr7 h.k hp _ (e.length - 1) (Z6f _) zoy
structure ShN (o n:Int)(b:List Int)(k:Nat)(a:List Alt):Prop where
 sh:∃ops:List Int,ops.length=k/\shape ⟨o,n,b,ops,a⟩=true
section
variable {o n:Int}{b:List Int}{k:Nat}{a:List Alt}
theorem ShN.want(h:ShN o n b k a)(h7:¬(o=7∨o=13)):∃w:Int×Int×Bool,(∃ops:List Int,ops.length=k/\wants ⟨o,n,b,ops,a⟩=some w)/\(k:Int)=w.1/\(b.length:Int)=w.2.1/\a=[]:=by
 obtain⟨ops,hl,h⟩:=h.sh;unfold shape at h;rw[if_neg h7]at h;split at h
 ·cases h
 ·rename_i kk bb u hw;simp only[Z2w,beq_iff_eq,Z4j]at h;exact⟨_,⟨ops,hl,hw⟩,by rw[←hl];exact h.1.1.1,h.1.1.2,h.1.2⟩
theorem ShN.lam(h:ShN 2 n b k a):k=1/\a=[]:=by obtain⟨w,⟨ops,hl,hw⟩,h1,h2,h3⟩:=h.want zoy;cases hw;exact⟨by simp at h1;omega,h3⟩
theorem ShN.app(h:ShN 3 n b k a):1<=k/\b=[]/\a=[]:=by obtain⟨w,⟨ops,hl,hw⟩,h1,h2,h3⟩:=h.want zoy;cases hw;refine⟨?_,Z4j.1 (by simp at h2;simp[h2]),h3⟩;simp only at h1;split at h1 <;> omega
theorem ShN.lett(h:ShN 4 n b k a):k=2/\b.length=1/\a=[]:=by obtain⟨w,⟨ops,hl,hw⟩,h1,h2,h3⟩:=h.want zoy;cases hw;exact⟨by simp at h1;omega,by simp at h2;omega,h3⟩
theorem ShN.recs(h:ShN 5 n b k a):k=b.length+1/\1<=b.length/\a=[]:=by obtain⟨w,⟨ops,hl,hw⟩,h1,h2,h3⟩:=h.want zoy;cases hw;refine⟨by simp at h1;omega,?_,h3⟩;simp only at h2;split at h2 <;> omega
theorem ShN.prim(h:ShN 8 n b k a):0<=n/\n<=11/\(k:Int)=Q74.getD n.toNat 0/\b=[]/\a=[]:=by
 obtain⟨w,⟨ops,hl,hw⟩,h1,h2,h3⟩:=h.want zoy;have hw:(if between n 0 11=true then some (Q74.getD n.toNat 0,(0:Int),true)else none)=some w:=hw;split at hw
 ·rename_i hb;cases hw;simp[between]at hb;exact⟨hb.1,hb.2,h1,Z4j.1 (by simp at h2;simp[h2]),h3⟩
 ·cases hw
theorem ShN.row(h:ShN 9 n b k a):k=b.length/\a=[]:=by obtain⟨w,⟨ops,hl,hw⟩,h1,h2,h3⟩:=h.want zoy;cases hw;exact⟨by simp at h1;omega,h3⟩
theorem ShN.one(h:ShN o n b k a)(ho:o=10∨o=12∨o=16):k=1/\b=[]/\a=[]:=by obtain⟨w,⟨ops,hl,hw⟩,h1,h2,h3⟩:=h.want zoy;rcases ho with rfl|rfl|rfl <;> (cases hw;exact⟨by simp at h1;omega,Z4j.1 (by simp at h2;simp[h2]),h3⟩)
theorem ShN.two(h:ShN 11 n b k a):k=2/\b=[]/\a=[]:=by obtain⟨w,⟨ops,hl,hw⟩,h1,h2,h3⟩:=h.want zoy;cases hw;exact⟨by simp at h1;omega,Z4j.1 (by simp at h2;simp[h2]),h3⟩
theorem ShN.alts7(h:ShN o n b k a)(ho:o=7∨o=13):k=1+a.length/\b=[]/\(o=13->1<=a.length)/\∀i x,a[i]?=some x->Q6d ⟨o,n,b,[],a⟩ i x=false:=by
 obtain⟨ops,hl,h⟩:=h.sh;unfold shape at h;rw[if_pos ho]at h;simp only[Z2w,beq_iff_eq,Z4j]at h;obtain⟨⟨h1,h2⟩,h3⟩:=h;unfold Q9g at h1;simp only[Z2w,Z31,beq_iff_eq,Z34,decide_eq_true_eq]at h1;obtain⟨h4,h5,h6⟩:=h1;refine⟨by omega,h2,fun h13=>?_,fun i x hx=>?_⟩
 ·rcases h6 with h6|h6
  ·subst h13;cases h6
  ·omega
 ·rw[Z3c]at h4;have:=h4 (x,i) (by rw[List.mk_mem_zipIdx_iff_getElem?];exact hx);simpa[Q6d]using this
theorem ShN.case(h:ShN 7 n b k a):k=1+a.length/\b=[]:=⟨(h.alts7 (.inl rfl)).1,(h.alts7 (.inl rfl)).2.1⟩
theorem ShN.handle(h:ShN 13 n b k a):k=1+a.length/\b=[]/\1<=a.length/\∀i x,a[i]?=some x->(i=0↔x.tag=-1)/\x.binds.length=if i=0 then 1 else 2:=by
 obtain⟨h1,h2,h3,h4⟩:=h.alts7 (.inr rfl);refine⟨h1,h2,h3 rfl,fun i x hx=>?_⟩;have:=h4 i x hx;simp only[Q6d,Z33,Bool.and_eq_false_iff,Bool.not_eq_false',beq_iff_eq,beq_eq_false_iff_ne]at this;obtain⟨_,h5,h6⟩:=this;refine⟨?_,?_⟩
 ·rcases h5 with h5|h5
  ·exact absurd rfl h5
  ·by_cases hi:i=0
   ·subst hi;simpa using h5
   ·have:((i:Int)==0)=false:=by simp[hi]
    rw[this]at h5;simp[hi]at h5 ⊢;exact h5
 ·rcases h6 with h6|h6
  ·exact absurd rfl h6
  ·split at h6
   ·rw[if_neg zoy];omega
   ·rename_i hh;have:i=0∨i=1:=by omega
    rcases this with rfl|rfl <;> simp <;> omega
end
def shpQ (l:Lab):Prop:=ShN l.op l.n l.binds l.ops.length l.alts
theorem Qo6{t:Tr}(h:allT shpQ t):ShN t.op t.n t.binds t.kids.length t.alts:=by
 cases t with
 |mk o n b k a=>simpa[shpQ]using h.1
theorem Qg9{t:Tr}(h:allT p t)(hs:s∈t.kids):allT p s:=by
 cases t with
 |mk o n b k a=>exact Q5s.1 h.2 s hs
theorem Q4r{t:Tr}(h:allT p t)(hi:i < t.kids.length):allT p (t.kids.getD i default):=by rw[Z42,Z47 hi];exact Qg9 h (Z4f hi)
theorem Q2f{t:Tr}(h:allT p t):p ⟨t.op,t.n,t.binds,t.kids.map Tr.op,t.alts⟩:=by
 cases t with
 |mk o n b k a=>exact h.1
mutual
theorem Qbo{p q:Lab->Prop}(h:∀l,p l->q l):∀t:Tr,allT p t->allT q t
 |.mk o n b k a,ht=>⟨h _ ht.1,Qi6 h k ht.2⟩
theorem Qi6{p q:Lab->Prop}(h:∀l,p l->q l):∀l:List Tr,allTs p l->allTs q l
 |[],_=>trivial
 |t::l,ht=>⟨Qbo h t ht.1,Qi6 h l ht.2⟩
end
theorem shpQ_of{l:Lab}(h:shape ⟨l.op,l.n,l.binds,l.ops,l.alts⟩=true):shpQ l:=⟨⟨l.ops,rfl,h⟩⟩
end Go.CoreX
namespace Go.CoreX
def tl (a:Alt):Int×Nat:=(a.tag,a.binds.length)
theorem sum0{α:Type}{f:α->Int}:∀{l:List α},(∀x∈l,0<=f x)->(l.map f).sum=0->∀x∈l,f x=0
 |[],_,_,x,hx=>by simp at hx
 |y::l,h,hs,x,hx=>by
  have h1:=h y zsy;have h2:∀z∈l,0<=f z:=fun z hz=>h z (by simp[hz]);have h3:0<=(l.map f).sum:=by
   clear h h1 hs hx
   induction l with
   |nil=>simp
   |cons z l ih=>
    have:=h2 z zsy;have:=ih fun y hy=>h2 y (by simp[hy]);simp only[Z4t,Z5s];omega
  simp only[Z4t,Z5s]at hs;rcases Z53.1 hx with rfl|hx
  ·omega
  ·exact sum0 h2 zoy x hx
open Classical in
mutual
theorem Qnw{p:Lab->Prop}:∀t:Tr,allT p t->sumT (fun l=>if p l then 0 else 1) t=0
 |.mk o n b k a,h=>by simp only[sumT,Qk7 k h.2];rw[if_pos h.1];rfl
theorem Qk7{p:Lab->Prop}:∀l:List Tr,allTs p l->Qm4 (fun l=>if p l then 0 else 1) l=0
 |[],_=>rfl
 |t::l,h=>by simp only[Qm4,Qnw t h.1,Qk7 l h.2];rfl
end
open Classical in
theorem Qi8{g:List Ex}(h:IsTree g)(ha:allT p (grow g)):∀l∈labs g,p l:=by
 have h1:=Qb8 (fun l=>if p l then (0:Int)else 1) h;rw[Qnw _ ha]at h1;intro l hl;have:=sum0 (fun x _=>by split <;> omega) h1 l hl;split at this
 ·assumption
 ·cases this
theorem Q54{e:List Ex}(h:check e=0):Q2p e=0/\(∀x∈e,Q18 false e x=0)/\(Q0l e).Nodup/\occT [] (grow e)=[]:=by
 unfold check body at h;by_cases h1:Q2p e=0
 ·rw[if_neg (by simpa using h1)]at h;by_cases h2:Q2d (Q18 false e) e=0
  ·rw[if_neg (by simpa using h2)]at h;by_cases h3:Q6t ([]++Q0l e)=true
   ·rw[if_pos h3]at h;cases h
   ·rw[if_neg h3]at h;have h3':=(Q3e _).1 (by simpa using h3);refine⟨h1,(Q3t _ _).1 h2,by simpa using h3',?_⟩;by_cases h4:(Q5e (grow e)).all (fun n=>([]:List Int).contains n)=true
    ·have h5:Q5e (grow e)=[]:=by
      cases hf:Q5e (grow e) with
      |nil=>rfl
      |cons n l=>rw[hf]at h4;simp at h4
     unfold Q5e at h5;cases ho:occT [] (grow e) with
     |nil=>rfl
     |cons n l=>
      have:=(Q8l n (n::l)).2 zsy;rw[←ho,h5]at this;simp at this
    ·rw[if_neg h4]at h;cases h
  ·rw[if_pos (by simpa using h2)]at h;exact absurd h h2
 ·rw[if_pos h1]at h;exact absurd h h1
end Go.CoreX
namespace Go.Proofs.YtlmokgooijbcdaaGreatDoor
variable {Γ:List (Nat×List AC)}
end Go.Proofs.YtlmokgooijbcdaaGreatDoor
namespace Go.CoreX
structure pOk (l:Lab):Prop where
 b:l.binds.length<=1048576
 k:l.ops.length<=1048576
 a:l.alts.length<=1048576
 ab:∀x∈l.alts,x.binds.length<=1048576
 s:l.binds.length+(l.alts.flatMap (·.binds)).length<=4194304
end Go.CoreX
namespace Go.Proofs.YtlmokgooijbcdaaGreatDoor
theorem Qme{g:List Ex}(hl:g.length<=1048576)(h:∀l∈labs g,pOk l):okB g:=by
 refine⟨⟨hl,fun x hx=>?_⟩,fun x hx=>?_⟩
 ·have:=h _ (Z5b (f:=labE g) hx);exact⟨this.b,by simpa[labE]using this.k,this.a,this.ab⟩
 ·exact (h _ (Z5b (f:=labE g) hx)).s
end Go.Proofs.YtlmokgooijbcdaaGreatDoor
namespace Go.CoreX
mutual
theorem Qcb:∀t:Tr,okT t->allT pOk t
 |.mk o n b k a,h=>⟨⟨h.1,by simpa using h.2.1,h.2.2.1,h.2.2.2.1.1,h.2.2.2.1.2⟩,Qkr k h.2.2.2.2⟩
theorem Qkr:∀l:List Tr,okTs l->allTs pOk l
 |[],_=>trivial
 |t::l,h=>⟨Qcb t h.1,Qkr l h.2⟩
end
end Go.CoreX
namespace Go.Proofs.YtlmokgooijbcdaaGreatDoor
theorem Qbe{T:Tr}(h:allT pOk T)(hl:cntN T<=1048576):okB (Q0c [] T):=Qme (by have:=Q53 T [];simp at this;omega) (Qi8 (Q51 _) (by rw[Q3s];exact h))
end Go.Proofs.YtlmokgooijbcdaaGreatDoor
namespace Go.CoreX
mutual
inductive Vl where
 |nil
 |word (n:Int)
 |clo (t:Tr) (e:En)
 |obj (tag:Int) (fs:List Vl)
 |row (ls:List Int) (fs:List Vl)
 |arr (a:Nat)
 |res (fs:List Fm)
 |cap (fn:Int) (slots:List Vl)
inductive En where
 |nil
 |bind (id:Int) (v:Vl) (next:En)
 |recs (t:Tr) (next:En)
inductive Fm where
 |mk (t:Tr) (e:En) (done:List Vl)
end
instance:Inhabited Vl:=⟨.nil⟩
instance:Inhabited Fm:=⟨.mk default .nil []⟩
def Fm.t:Fm->Tr|.mk t _ _=>t
def Fm.e:Fm->En|.mk _ e _=>e
def Fm.done:Fm->List Vl|.mk _ _ d=>d
@[simp] theorem Qy0 (t e d):(Fm.mk t e d).t=t:=rfl
@[simp] theorem Qy1 (t e d):(Fm.mk t e d).e=e:=rfl
@[simp] theorem Qy2 (t e d):(Fm.mk t e d).done=d:=rfl
def Qcl (l:List Int)(id:Int):Nat->Option Nat
 |0=>none
 |i+1=>if l.getD i 0=id then some i else Qcl l id i
def Qb4 (id:Int):En->Vl
 |.nil=>.nil
 |.bind i v n=>if i=id then v else Qb4 id n
 |.recs t n=>match Qcl t.binds id t.binds.length with
  |some i=>.clo (t.kids.getD i default) (.recs t n)
  |none=>Qb4 id n
def allE (e:En):List Int->List Vl->En
 |id::ids,l=>allE (.bind id (l.headD .nil) e) ids l.tail
 |[],_=>e
inductive Ctl where
 |ev (t:Tr) (e:En)
 |rt (v:Vl)
structure Ms where
 c:Ctl
 k:List Fm
 out:List Int
 steps:Int
 heap:List (List Vl)
structure Fun where
 params:List Int
 body:Tr
def condV (b:Bool):Vl:=.obj (if b then 1 else 0) []
def Q5t (n:Int):Int:=(n+1073741824) % 2147483648 - 1073741824
def Q4k:Vl->Except Int Int
 |.word n=>.ok n
 |_=>.error 5
def Qpr (h:List (List Vl)):Vl->Except Int (Nat×List Vl)
 |.arr a=>.ok (a,h.getD a [])
 |_=>.error 5
def rowsV:Vl->Except Int (List Int×List Vl)
 |.row ls fs=>.ok (ls,fs)
 |_=>.error 5
def bsGo (l:List Int)(x:Int):Nat->Nat->Nat->Nat
 |0,i,_=>i
 |g+1,i,j=>if i < j then (if l.getD ((i+j) / 2) 0 < x then bsGo l x g ((i+j) / 2+1) j else bsGo l x g i ((i+j) / 2))else i
def bsAt (l:List Int)(x:Int):Nat:=bsGo l x l.length 0 l.length
def bsIs (l:List Int)(x:Int):Bool:=decide (bsAt l x < l.length)&&l.getD (bsAt l x) 0==x
def Qlk (fu:Int)(m:Ms)(many:Int)(v:Vl):Except Int (Ms×Vl):=
 if many < 0∨1024 < many then .error 6 else if fu - m.steps < many then .error (-1) else
 .ok ({ m with steps:=m.steps+many,heap:=m.heap++[List.replicate many.toNat v] },.arr m.heap.length)
def Qg7 (m:Ms)(n:Int)(l:List Vl):Except Int (Ms×Vl):=do
 let (a,its) ←Qpr m.heap (l.getD 0 .nil)
 if n=9 then return (m,.word its.length)
 let i ←Q4k (l.getD 1 .nil)
 if i < 0∨(its.length:Int)<=i then .error 2
 else if n=10 then return (m,its.getD i.toNat .nil)
 else return ({ m with heap:=m.heap.set a (its.set i.toNat (l.getD 2 .nil)) },.obj 0 [])
def Q84 (fu:Int)(m:Ms)(n:Int)(l:List Vl):Except Int (Ms×Vl):=
 if n=0 then do return (m,.word (Q5t ((←Q4k (l.getD 0 .nil))+(←Q4k (l.getD 1 .nil))))) else
 if n=1 then do return (m,.word (Q5t ((←Q4k (l.getD 0 .nil)) - (←Q4k (l.getD 1 .nil))))) else
 if n=2 then do return (m,.word (Q5t ((←Q4k (l.getD 0 .nil)) * (←Q4k (l.getD 1 .nil))))) else
 if n=3 then do
  let a ←Q4k (l.getD 0 .nil)
  let b ←Q4k (l.getD 1 .nil)
  if b=0 then .error 1 else return (m,.word (Q5t (a.tdiv b))) else
 if n=4 then do
  let a ←Q4k (l.getD 0 .nil)
  let b ←Q4k (l.getD 1 .nil)
  if b=0 then .error 1 else return (m,.word (a.tmod b)) else
 if n=5 then do return (m,condV (decide ((←Q4k (l.getD 0 .nil)) < (←Q4k (l.getD 1 .nil))))) else
 if n=6 then do return (m,condV (decide ((←Q4k (l.getD 0 .nil))=(←Q4k (l.getD 1 .nil))))) else
 if n=7 then do
  let a ←Q4k (l.getD 0 .nil)
  if m.out.length=1000 then .error 6 else return ({ m with out:=m.out++[a] },.obj 0 []) else
 if n=8 then do
  let a ←Q4k (l.getD 0 .nil)
  Qlk fu m a (l.getD 1 .nil) else
 Qg7 m n l
def withR (ls:List Int)(fs:List Vl)(n:Int)(v:Vl):Vl:=
 if bsIs ls n then .row ls (fs.set (bsAt ls n) v)
 else .row (ls.take (bsAt ls n)++n::ls.drop (bsAt ls n)) (fs.take (bsAt ls n)++v::fs.drop (bsAt ls n))
def Q6b (fu:Int)(m:Ms)(t:Tr)(l:List Vl):Except Int (Ms×Vl):=
 if t.op=6 then .ok (m,.obj t.n l) else
 if t.op=8 then Q84 fu m t.n l else
 if t.op=9 then .ok (m,.row t.binds l) else
 if t.op=10 then do
  let (ls,fs) ←rowsV (l.getD 0 .nil)
  if bsIs ls t.n then return (m,fs.getD (bsAt ls t.n) .nil)else .error 3
 else do
  let (ls,fs) ←rowsV (l.getD 0 .nil)
  return (m,withR ls fs t.n (l.getD 1 .nil))
def opdN (t:Tr):Nat:=if t.op=4∨t.op=7∨t.op=13∨t.op=12 then 1 else t.kids.length
def Q2m (tag:Int)(fs:List Vl)(e:En)(kids:List Tr):Nat->List Alt->Except Int Ctl
 |_,[]=>.error 3
 |i,a::al=>if a.tag=tag then (if a.binds.length=fs.length then .ok (.ev (kids.getD (1+i) default) (allE e a.binds fs))else .error 5)
  else if a.tag=-1 then .ok (.ev (kids.getD (1+i) default) e)else Q2m tag fs e kids (i+1) al
def Q4e (m:Ms)(t:Tr)(e:En)(v:Vl):Except Int Ms:=
 match v with
 |.obj tag fs=>(Q2m tag fs e t.kids 0 t.alts).map fun c=>{ m with c:=c }
 |_=>.error 5
def Qd4 (fns:List Fun)(m:Ms)(f:Vl)(args:List Vl):Except Int Ms:=
 match f with
 |.clo t e=>if t.binds.length=args.length then .ok { m with c:=.ev (t.kids.getD 0 default) (allE e t.binds args) }else .error 5
 |.cap n slots=>if (fns.getD n.toNat ⟨[],default⟩).params.length=args.length+1 then .ok { m with c:=.ev (fns.getD n.toNat ⟨[],default⟩).body (allE .nil (fns.getD n.toNat ⟨[],default⟩).params (.cap n slots::args)) }else .error 5
 |.res fs=>match args with
  |[a]=>.ok { m with c:=.rt a,k:=fs++m.k }
  |_=>.error 5
 |_=>.error 5
def Qbn (op:Int):Nat->List Alt->Option Nat
 |_,[]=>none
 |i,a::al=>if a.tag=op/\0 < i then some i else Qbn op (i+1) al
def Q5a (m:Ms)(op:Int)(v:Vl):List Fm->List Fm->Except Int Ms
 |_,[]=>.error 4
 |l,f::k=>match (if f.t.op=13 then Qbn op 0 f.t.alts else none) with
  |some i=>.ok { m with c:=.ev (f.t.kids.getD (1+i) default) (.bind ((f.t.alts.getD i ⟨0,[]⟩).binds.getD 1 0) (.res (l++[f])) (.bind ((f.t.alts.getD i ⟨0,[]⟩).binds.getD 0 0) v f.e)),k:=k }
  |none=>Q5a m op v (l++[f]) k
def kidM (fu:Int)(fns:List Fun)(m:Ms)(f:Fm)(k:List Fm):Except Int Ms:=
 if f.done.length < opdN f.t then .ok { m with c:=.ev (f.t.kids.getD f.done.length default) f.e,k:=f::k } else
 if f.t.op=4 then .ok { m with c:=.ev (f.t.kids.getD 1 default) (.bind (f.t.binds.getD 0 0) (f.done.getD 0 .nil) f.e),k:=k } else
 if f.t.op=7 then Q4e { m with k:=k } f.t f.e (f.done.getD 0 .nil) else
 if f.t.op=3 then Qd4 fns { m with k:=k } (f.done.getD 0 .nil) (f.done.drop 1) else
 if f.t.op=13 then .ok { m with c:=.ev (f.t.kids.getD 1 default) (.bind ((f.t.alts.getD 0 ⟨0,[]⟩).binds.getD 0 0) (f.done.getD 0 .nil) f.e),k:=k } else
 if f.t.op=12 then Q5a m f.t.n (f.done.getD 0 .nil) [] k else
 if f.t.op=14 then .ok { m with c:=.ev (fns.getD f.t.n.toNat ⟨[],default⟩).body (allE .nil (fns.getD f.t.n.toNat ⟨[],default⟩).params f.done),k:=k } else
 if f.t.op=15 then .ok { m with c:=.rt (.cap f.t.n f.done),k:=k } else
 if f.t.op=16 then (match f.done.getD 0 .nil with
  |.cap _ slots=>if f.t.n < slots.length then .ok { m with c:=.rt (slots.getD f.t.n.toNat .nil),k:=k }else .error 5
  |_=>.error 5) else
 (Q6b fu { m with k:=k } f.t f.done).map fun (m',v)=>{ m' with c:=.rt v }
def Q3w (fu:Int)(fns:List Fun)(m:Ms)(t:Tr)(e:En):Except Int Ms:=
 if t.op=0 then .ok { m with c:=.rt (Qb4 t.n e) } else
 if t.op=1 then .ok { m with c:=.rt (.word t.n) } else
 if t.op=2 then .ok { m with c:=.rt (.clo t e) } else
 if t.op=17 then .error t.n else
 if t.op=5 then .ok { m with c:=.ev (t.kids.getD t.binds.length default) (.recs t e) } else
 kidM fu fns m (.mk t e []) m.k
inductive Rd where
 |next (m:Ms)
 |done (m:Ms) (v:Vl)
 |fuel
 |trap (code:Int) (m:Ms)
def Q29 (fu:Int)(fns:List Fun)(m:Ms):Rd:=
 match m.c with
 |.rt v=>match m.k with
  |[]=>.done m v
  |f::k=>match kidM fu fns m (.mk f.t f.e (f.done++[v])) k with
   |.ok m'=>.next m'
   |.error c=>.trap c m
 |.ev t e=>if m.steps=fu then .fuel else
  match Q3w fu fns { m with steps:=m.steps+1 } t e with
  |.ok m'=>.next m'
  |.error c=>.trap c { m with steps:=m.steps+1 }
structure Rs where
 out:List Int
 fin:Int
 val:Int
 steps:Int
 err:Int
 deriving DecidableEq
def Qfk:Vl->Int
 |.word n=>n
 |.obj t _=>t
 |_=>0
def noFuel:Rs:=⟨[],0,0,0,13⟩
def goM (fu:Int)(fns:List Fun):Nat->Ms->Option Rs
 |0,_=>none
 |g+1,m=>match Q29 fu fns m with
  |.next m'=>goM fu fns g m'
  |.done m v=>some ⟨m.out,0,Qfk v,m.steps,0⟩
  |.fuel=>some noFuel
  |.trap c m=>some (if c < 0 then noFuel else ⟨m.out,c,0,m.steps,0⟩)
inductive Rn (fu:Int)(fns:List Fun):Nat->Ms->Ms->Prop
 |zero (m:Ms):Rn fu fns 0 m m
 |succ {n:Nat}{m m1 m':Ms}(h:Q29 fu fns m=.next m1) (k:Rn fu fns n m1 m'):Rn fu fns (n+1) m m'
section
variable {fu:Int}{fns:List Fun}
theorem Rn.trans{n:Nat}{m m1 m2:Ms}(a:Rn fu fns n m m1)(b:Rn fu fns n' m1 m2):Rn fu fns (n'+n) m m2:=by
 induction a with
 |zero m=>exact b
 |succ h k ih=>exact .succ h (ih b)
theorem Rn.go{n:Nat}{m m':Ms}(a:Rn fu fns n m m')(g:Nat):goM fu fns (g+n) m=goM fu fns g m':=by
 induction a with
 |zero m=>rfl
 |succ h k ih=>
  rw[←Z60,goM,h];exact ih
def Rs' (fu:Int)(fns:List Fun)(m m':Ms):Prop:=∃n,Rn fu fns n m m'
theorem Rs'.trans{m m1 m2:Ms}(a:Rs' fu fns m m1)(b:Rs' fu fns m1 m2):Rs' fu fns m m2:=by obtain⟨n,a⟩:=a;obtain⟨k,b⟩:=b;exact⟨_,a.trans b⟩
theorem Rs'.one{m m1 m2:Ms}(h:Q29 fu fns m=.next m1)(b:Rs' fu fns m1 m2):Rs' fu fns m m2:=by obtain⟨k,b⟩:=b;exact⟨_,.succ h b⟩
end
end Go.CoreX
namespace Go.CoreX
section
variable {fu:Int}{fns:List Fun}
def tV (n:Int):Tr:=.mk 0 n [] [] []
def tW (n:Int):Tr:=.mk 1 n [] [] []
end
end Go.CoreX
namespace Go.CoreX
mutual
def szV:Vl->Nat
 |.res fs=>szFs fs
 |_=>0
def szVs:List Vl->Nat
 |[]=>0
 |v::vs=>szV v+szVs vs
def szF:Fm->Nat
 |.mk _ _ d=>1+szVs d
def szFs:List Fm->Nat
 |[]=>0
 |f::fs=>szF f+szFs fs
end
theorem Qrt(a b:List Fm):szFs (a++b)=szFs a+szFs b:=by
 induction a with
 |nil=>simp[szFs]
 |cons x a ih=>simp[szFs,ih];omega
def phase (m:Ms):Nat:=match m.c with
 |.ev _ _=>0
 |.rt _=>1+szFs m.k
structure After (fu:Int)(m m':Ms)(b:Nat):Prop where
 ge:m.steps<=m'.steps
 le:m.steps<=fu->m'.steps<=fu
 ph:phase m' < 1+b
theorem Qel{tag:Int}{fs:List Vl}{e:En}{kids:List Tr}{c:Ctl}:∀(i:Nat)(l:List Alt),Q2m tag fs e kids i l=.ok c->∃t e',c=.ev t e'
 |_,[],h=>by cases h
 |i,a::al,h=>by
  unfold Q2m at h;split at h
  ·split at h
   ·cases h;exact⟨_,_,rfl⟩
   ·cases h
  ·split at h
   ·cases h;exact⟨_,_,rfl⟩
   ·exact Qel _ al h
theorem Qc7{m m':Ms}{op:Int}{v:Vl}:∀(l k:List Fm),Q5a m op v l k=.ok m'->(∃t e',m'.c=.ev t e')/\m'.steps=m.steps
 |_,[],h=>by cases h
 |l,f::k,h=>by
  unfold Q5a at h;split at h
  ·cases h;exact⟨⟨_,_,rfl⟩,rfl⟩
  ·exact Qc7 _ k h
theorem Qis{m m':Ms}{n:Int}{l:List Vl}{v:Vl}(h:Q84 fu m n l=.ok (m',v)):m.steps<=m'.steps/\(m.steps<=fu->m'.steps<=fu)/\m'.k=m.k:=by
 have bd:∀{α β:Type}{x:Except Int α}{f:α->Except Int β}{r:β},x.bind f=.ok r->∃a,x=.ok a/\f a=.ok r:=by
  intro α β x f r hh;cases x with
  |error c=>cases hh
  |ok a=>exact⟨a,rfl,hh⟩
 unfold Q84 at h;repeat' split at h
 all_goals try (simp only[bind,Except.bind,pure,Except.pure]at h;repeat' split at h)
 all_goals try (cases h;done)
 all_goals try (cases h;exact⟨Z36 _,id,rfl⟩)
 ·unfold Qlk at h;repeat' split at h
  all_goals try (cases h;done)
  cases h;refine⟨?_,?_,rfl⟩ <;> simp <;> omega
 ·unfold Qg7 at h;simp only[bind,Except.bind,pure,Except.pure]at h;repeat' split at h
  all_goals try (cases h;done)
  all_goals (cases h;exact⟨Z36 _,id,rfl⟩)
theorem Q6n{m m':Ms}{t:Tr}{l:List Vl}{v:Vl}(h:Q6b fu m t l=.ok (m',v)):m.steps<=m'.steps/\(m.steps<=fu->m'.steps<=fu)/\m'.k=m.k:=by
 unfold Q6b at h;repeat' split at h
 ·cases h;exact⟨Z36 _,id,rfl⟩
 ·exact Qis h
 ·cases h;exact⟨Z36 _,id,rfl⟩
 ·simp only[bind,Except.bind,pure,Except.pure]at h;repeat' split at h
  all_goals try (cases h;done)
  all_goals (cases h;exact⟨Z36 _,id,rfl⟩)
 ·simp only[bind,Except.bind,pure,Except.pure]at h;repeat' split at h
  all_goals try (cases h;done)
  all_goals (cases h;exact⟨Z36 _,id,rfl⟩)
theorem Qa1{fns:List Fun}{m m':Ms}{f:Fm}{k:List Fm}(h:kidM fu fns m f k=.ok m')(d0:List Vl)(v:Vl)(hd:f.done=d0++[v]∨(f.done=[]/\d0=[])):After fu m m' (1+szVs d0+szFs k):=by
 unfold kidM at h;split at h
 ·cases h;exact⟨Z36 _,id,by simp[phase];omega⟩
 split at h
 ·cases h;exact⟨Z36 _,id,by simp[phase];omega⟩
 split at h
 ·unfold Q4e at h;split at h
  ·cases hc:Q2m _ _ f.e f.t.kids 0 f.t.alts with
   |error c=>rw[hc]at h;cases h
   |ok c=>
    rw[hc]at h;obtain⟨t,e',rfl⟩:=Qel _ _ hc;cases h;exact⟨Z36 _,id,by simp[phase];omega⟩
  ·cases h
 split at h
 ·unfold Qd4 at h;split at h
  ·split at h
   ·cases h;exact⟨Z36 _,id,by simp[phase];omega⟩
   ·cases h
  ·split at h
   ·cases h;exact⟨Z36 _,id,by simp[phase];omega⟩
   ·cases h
  ·rename_i fs hf;split at h
   ·rename_i a ha;cases h;refine⟨Z36 _,id,?_⟩;simp only[phase,Qrt];rcases hd with hd|⟨hd,_⟩
    ·rw[hd]at hf ha;have:d0=[.res fs]:=by
      have hl:=congrArg List.length ha;simp at hl
      match d0,hl with
      |[x],_=>simp at hf;rw[hf]
     subst this;simp[szVs,szV]
    ·rw[hd]at ha;cases ha
   ·cases h
  ·cases h
 split at h
 ·cases h;exact⟨Z36 _,id,by simp[phase];omega⟩
 split at h
 ·obtain⟨⟨t,e',hc⟩,hs⟩:=Qc7 _ _ h;refine⟨by rw[hs];exact Z36 _,fun hh=>by rw[hs];exact hh,?_⟩;simp[phase,hc];omega
 split at h
 ·cases h;exact⟨Z36 _,id,by simp[phase];omega⟩
 split at h
 ·cases h;exact⟨Z36 _,id,by simp[phase];omega⟩
 split at h
 ·split at h
  ·split at h
   ·cases h;exact⟨Z36 _,id,by simp[phase];omega⟩
   ·cases h
  ·cases h
 ·cases hp:Q6b fu { m with k:=k } f.t f.done with
  |error c=>rw[hp]at h;cases h
  |ok mv=>
   obtain⟨m2,v2⟩:=mv;rw[hp]at h;cases h;obtain⟨h1,h2,h3⟩:=Q6n hp;refine⟨h1,h2,?_⟩;simp only[phase,h3];omega
structure GP where
 p:Lab->Prop
 S:Int->Prop
 W:Int->Prop
 fns:List Fun
 R:Prop:=True
 RW:List Int->Prop:=fun _=>True
structure GPok (G:GP):Prop where
 sh:∀l,G.p l->shpQ l
 bnd:∀l,G.p l->∀i∈Q0h l.op l.binds l.alts,G.S i
 wd:∀l,G.p l->l.op=1->G.W l.n
 rc:∀l,G.p l->l.op=5->∀i,i < l.binds.length->l.ops[i]?=some 2
 wr:∀n,G.W (Q5t n)
 wl:∀n:Int,0<=n->n<=1024->G.W n
 wm:∀a b:Int,G.W a->G.W b->G.W (a.tmod b)
 fn:∀f∈G.fns,allT G.p f.body/\∀i∈f.params,G.S i
 cl:∀l,G.p l->l.op=14∨l.op=15->0<=l.n/\l.n < G.fns.length
 rs:∀l,G.p l->l.op=12->G.R
 rw:∀l,G.p l->l.op=9->G.RW l.binds:=by intros;exact True.intro
 ri:∀l,G.p l->l.op=11->∀ls,G.RW ls->bsIs ls l.n=false->G.RW (ls.take (bsAt ls l.n)++l.n::ls.drop (bsAt ls l.n)):=by intros;exact True.intro
def nLf (o:Int):Prop:=¬(o=0∨o=1∨o=2∨o=17∨o=5)
mutual
def gV (G:GP):Vl->Prop
 |.nil=>True
 |.word n=>G.W n
 |.clo t e=>t.op=2/\allT G.p t/\gE G e
 |.obj _ fs=>gVs G fs
 |.row ls fs=>ls.length=fs.length/\G.RW ls/\gVs G fs
 |.arr _=>True
 |.res fs=>G.R/\gFs G fs
 |.cap n sl=>(0<=n/\n < G.fns.length)/\gVs G sl
def gVs (G:GP):List Vl->Prop
 |[]=>True
 |v::l=>gV G v/\gVs G l
def gE (G:GP):En->Prop
 |.nil=>True
 |.bind i v n=>G.S i/\gV G v/\gE G n
 |.recs t n=>t.op=5/\allT G.p t/\gE G n
def gF (G:GP):Fm->Prop
 |.mk t e d=>allT G.p t/\gE G e/\gVs G d/\d.length < opdN t/\nLf t.op
def gFs (G:GP):List Fm->Prop
 |[]=>True
 |f::l=>gF G f/\gFs G l
end
def gCv (G:GP):Ctl->Prop
 |.ev t e=>allT G.p t/\gE G e
 |.rt v=>gV G v
structure gM (G:GP)(m:Ms):Prop where
 c:gCv G m.c
 k:gFs G m.k
 h:∀r∈m.heap,r.length<=1024/\gVs G r
section
variable {G:GP}(hG:GPok G)
theorem Q34:∀{l:List Vl},gVs G l↔∀v∈l,gV G v
 |[]=>by simp[gVs]
 |v::l=>by simp[gVs,Q34 (l:=l)]
theorem Qfv:∀{l:List Fm},gFs G l↔∀v∈l,gF G v
 |[]=>by simp[gFs]
 |v::l=>by simp[gFs,Qfv (l:=l)]
theorem gF_iff{f:Fm}:gF G f↔allT G.p f.t/\gE G f.e/\gVs G f.done/\f.done.length < opdN f.t/\nLf f.t.op:=by cases f;exact Iff.rfl
theorem Q4n{l:List Vl}(h:gVs G l)(i:Nat):gV G (l.getD i .nil):=by
 rw[Z42];cases hi:l[i]? with
 |none=>simp[gV]
 |some v=>exact Q34.1 h v (Z5c hi)
theorem Qja{a b:List Vl}(ha:gVs G a)(hb:gVs G b):gVs G (a++b):=Q34.2 fun v hv=>(Z50.1 hv).elim (Q34.1 ha v) (Q34.1 hb v)
theorem Qjb{a b:List Fm}(ha:gFs G a)(hb:gFs G b):gFs G (a++b):=Qfv.2 fun v hv=>(Z50.1 hv).elim (Qfv.1 ha v) (Qfv.1 hb v)
theorem Qcr:∀{ids:List Int}{l:List Vl}{e:En},gE G e->gVs G l->(∀i∈ids,G.S i)->gE G (allE e ids l)
 |[],_,_,he,_,_=>he
 |i::ids,l,e,he,hl,hs=>by
  refine Qcr (ids:=ids) ⟨hs i zsy,?_,he⟩ ?_ fun j hj=>hs j (by simp[hj])
  ·cases l with
   |nil=>simp[gV]
   |cons v l=>exact hl.1
  ·cases l with
   |nil=>simp[gVs]
   |cons v l=>exact hl.2
include hG
theorem g_sh{t:Tr}(h:allT G.p t):ShN t.op t.n t.binds t.kids.length t.alts:=Qo6 (Qbo hG.sh t h)
theorem g_bnd{t:Tr}(h:allT G.p t):∀i∈Q0h t.op t.binds t.alts,G.S i:=hG.bnd _ (Q2f h)
theorem Qqb{t:Tr}(h:allT G.p t){a:Alt}(ha:t.alts[i]?=some a):∀j∈a.binds,G.S j:=fun j hj=>g_bnd hG h j (by unfold Q0h;exact Z50.2 (.inr (Z58.2 ⟨a,Z5c ha,hj⟩)))
omit hG in
theorem Qh9{l:List Int}{id:Int}:∀{n i:Nat},Qcl l id n=some i->i < n/\l.getD i 0=id
 |0,_,h=>by cases h
 |n+1,i,h=>by
  unfold Qcl at h;split at h
  ·rename_i he;cases h;exact⟨by omega,he⟩
  ·have:=Qh9 h;exact⟨by omega,this.2⟩
theorem Qtd{t:Tr}(h:allT G.p t)(h5:t.op=5)(hi:i < t.binds.length):(t.kids.getD i default).op=2/\allT G.p (t.kids.getD i default)/\i < t.kids.length:=by
 have h1:=hG.rc _ (Q2f h) h5 i hi;simp only at h1;rw[Z4a]at h1;cases hk:t.kids[i]? with
 |none=>rw[hk]at h1;cases h1
 |some s=>
  rw[hk]at h1;have hl:=(Z49.1 hk).1;refine⟨?_,Q4r h hl,hl⟩;rw[Z42,hk];simpa using h1
theorem Qjc{id:Int}:∀{e:En},gE G e->gV G (Qb4 id e)
 |.nil,_=>by simp[Qb4,gV]
 |.bind i v n,h=>by
  unfold Qb4;split
  ·exact h.2.1
  ·exact Qjc h.2.2
 |.recs t n,h=>by
  unfold Qb4;split
  ·rename_i i hi;have h1:=(Qh9 hi).1;have h2:=Qtd hG h.2.1 h.1 h1;exact⟨h2.1,h2.2.1,h.1,h.2.1,h.2.2⟩
  ·exact Qjc h.2.2
theorem Qhx{t:Tr}{e:En}{tag:Int}{fs:List Vl}{c:Ctl}(ht:allT G.p t)(h7:t.op=7)(he:gE G e)(hf:gVs G fs):∀(l:List Alt)(i:Nat),t.alts.drop i=l->Q2m tag fs e t.kids i l=.ok c->gCv G c
 |[],_,_,h=>by cases h
 |a::al,i,hd,h=>by
  have ha:t.alts[i]?=some a:=by have:=congrArg (·[0]?) hd;simpa using this
  have hl:=(Z49.1 ha).1;have hsh:=g_sh hG ht;rw[h7]at hsh;have hk:1+i < t.kids.length:=by rw[hsh.case.1];omega
  unfold Q2m at h;split at h
  ·split at h
   ·cases h;exact⟨Q4r ht hk,Qcr he hf (Qqb hG ht ha)⟩
   ·cases h
  ·split at h
   ·cases h;exact⟨Q4r ht hk,he⟩
   ·exact Qhx ht h7 he hf al (i+1) (by rw[←List.drop_drop,hd];rfl) h
omit hG in
theorem Q9e{op:Int}:∀{l:List Alt}{i j:Nat},Qbn op i l=some j->0 < j/\i<=j/\∃a,l[j - i]?=some a/\a.tag=op
 |[],_,_,h=>by cases h
 |a::al,i,j,h=>by
  unfold Qbn at h;split at h
  ·rename_i hc;cases h;exact⟨hc.2,by omega,a,by simp,hc.1⟩
  ·obtain⟨h1,h2,b,h3,h4⟩:=Q9e h;refine⟨h1,by omega,b,?_,h4⟩;rw[show j - i=(j - (i+1))+1 by omega];simpa using h3
theorem Qdt{op:Int}{v:Vl}{m m':Ms}(hR:G.R)(hv:gV G v)(hh:∀r∈m.heap,r.length<=1024/\gVs G r):∀{k l:List Fm},gFs G l->gFs G k->Q5a m op v l k=.ok m'->gM G m'
 |[],_,_,_,h=>by cases h
 |f::k,l,hl,hk,h=>by
  unfold Q5a at h;split at h
  ·rename_i i hi;split at hi
   ·rename_i h13;obtain⟨h1,h2,a,h3,h4⟩:=Q9e hi;cases h;cases f with
    |mk t e d=>
     obtain⟨g1,g2,g3,g4⟩:=hk.1;simp only[Qy0,Qy1]at *;have hsh:=g_sh hG g1;rw[h13]at hsh;have h3:t.alts[i]?=some a:=by simpa using h3
     have hil:=(Z49.1 h3).1;have hb:=(hsh.handle.2.2.2 i a h3).2;rw[if_neg zoy]at hb;have hS:=Qqb hG g1 h3;have hga:t.alts.getD i ⟨0,[]⟩=a:=by rw[Z42,h3];rfl
     match hab:a.binds,hb with
     |[x,y],_=>
      refine⟨⟨Q4r g1 (by rw[hsh.handle.1];omega),?_,?_,?_,hv,g2⟩,hk.2,hh⟩
      ·rw[hga,hab];exact hS _ (by rw[hab];simp)
      ·exact⟨hR,Qjb (b:=[_]) hl ⟨⟨g1,g2,g3,g4⟩,trivial⟩⟩
      ·rw[hga,hab];exact hS _ (by rw[hab];simp)
   ·cases hi
  ·exact Qdt hR hv hh (Qjb (b:=[f]) hl ⟨hk.1,trivial⟩) hk.2 h
theorem primM_g{m m':Ms}{n:Int}{l:List Vl}{v:Vl}(hl:gVs G l)(hh:∀r∈m.heap,r.length<=1024/\gVs G r)(h:Q84 fu m n l=.ok (m',v)):gV G v/\∀r∈m'.heap,r.length<=1024/\gVs G r:=by
 have hw:∀{i:Nat}{a:Int},Q4k (l.getD i .nil)=.ok a->G.W a:=by intro i a ha;have:=Q4n hl i;cases hv:l.getD i Vl.nil <;> rw[hv]at ha this <;> first|(cases ha;done)|(cases ha;exact this)
 unfold Q84 at h;repeat' split at h
 all_goals try (simp only[bind,Except.bind,pure,Except.pure]at h;repeat' split at h)
 all_goals try (cases h;done)
 all_goals try (cases h;refine⟨?_,hh⟩;first|exact hG.wr _|(simp only[condV,gV,gVs];done))
 ·rename_i a ha _ b hb _;cases h;exact⟨hG.wm _ _ (hw ha) (hw hb),hh⟩
 ·unfold Qlk at h;repeat' split at h
  all_goals try (cases h;done)
  cases h;refine⟨trivial,fun r hr=>?_⟩;rcases Z50.1 hr with hr|hr
  ·exact hh r hr
  ·simp at hr;subst hr;refine⟨by simp;omega,Q34.2 fun v hv=>?_⟩;rw[(Z5g.1 hv).2];exact Q4n hl 1
 ·unfold Qg7 at h;simp only[bind,Except.bind,pure,Except.pure]at h;have hit:∀{a:Nat}{its:List Vl},Qpr m.heap (l.getD 0 .nil)=.ok (a,its)->its.length<=1024/\gVs G its:=by
   intro a its ha;cases hv:l.getD 0 Vl.nil <;> rw[hv]at ha <;> try (cases ha;done)
   cases ha;rw[Z42];cases hr:m.heap[a]? with
   |none=>simp[gVs]
   |some r=>exact hh r (Z5c hr)
  cases hp:Qpr m.heap (l.getD 0 .nil) with
  |error c=>rw[hp]at h;cases h
  |ok p=>
   obtain⟨a,its⟩:=p;rw[hp]at h;simp only at h;by_cases h9:n=9
   ·rw[if_pos h9]at h;cases h;exact⟨hG.wl _ zoy (by have:=(hit hp).1;omega),hh⟩
   rw[if_neg h9]at h;cases hw1:Q4k (l.getD 1 .nil) with
   |error c=>rw[hw1]at h;cases h
   |ok i=>
    rw[hw1]at h;simp only at h;split at h
    ·cases h
    split at h
    ·cases h;exact⟨Q4n (hit hp).2 _,hh⟩
    ·cases h;refine⟨by simp only[gV,gVs],fun r hr=>?_⟩;rcases Z5e hr with hr|hr
     ·exact hh r hr
     ·subst hr;refine⟨by simpa using (hit hp).1,Q34.2 fun v hv=>?_⟩;rcases Z5e hv with hv|hv
      ·exact Q34.1 (hit hp).2 v hv
      ·rw[hv];exact Q4n hl 2
theorem Qs8{m m':Ms}{t:Tr}{l:List Vl}{v:Vl}(ht:allT G.p t)(h11:t.op=6∨t.op=8∨t.op=9∨t.op=10∨t.op=11)(hlen:l.length=t.kids.length)(hl:gVs G l)(hh:∀r∈m.heap,r.length<=1024/\gVs G r)(h:Q6b fu m t l=.ok (m',v)):gV G v/\∀r∈m'.heap,r.length<=1024/\gVs G r:=by
 have hr:∀{ls:List Int}{fs:List Vl},rowsV (l.getD 0 .nil)=.ok (ls,fs)->ls.length=fs.length/\G.RW ls/\gVs G fs:=by intro ls fs ha;have:=Q4n hl 0;cases hv:l.getD 0 Vl.nil <;> rw[hv]at ha this <;> first|(cases ha;done)|(cases ha;exact this)
 unfold Q6b at h;split at h
 ·cases h;exact⟨hl,hh⟩
 split at h
 ·exact primM_g hG hl hh h
 split at h
 ·rename_i h9;cases h;have:=g_sh hG ht;rw[h9]at this;exact⟨⟨by rw[hlen];exact this.row.1.symm,hG.rw _ (Q2f ht) h9,hl⟩,hh⟩
 split at h
 ·simp only[bind,Except.bind,pure,Except.pure]at h;repeat' split at h
  all_goals try (cases h;done)
  rename_i _ p hp _;obtain⟨ls,fs⟩:=p;cases h;exact⟨Q4n (hr hp).2.2 _,hh⟩
 ·rename_i n6 n8 n9 n10;have h11':t.op=11:=by omega
  simp only[bind,Except.bind,pure,Except.pure]at h;repeat' split at h
  all_goals try (cases h;done)
  rename_i _ p hp;obtain⟨ls,fs⟩:=p;cases h;refine⟨?_,hh⟩;have hv:=Q4n hl 1;obtain⟨h1,hrw,h2⟩:=hr hp;unfold withR;split
  ·refine⟨by simpa using h1,hrw,Q34.2 fun v hv'=>?_⟩;rcases Z5e hv' with h3|h3
   ·exact Q34.1 h2 v h3
   ·rw[h3];exact hv
  ·rename_i hbs;refine⟨by simp[h1],hG.ri _ (Q2f ht) h11' _ hrw (by simpa using hbs),Qja (Q34.2 fun v hv'=>Q34.1 h2 v (List.mem_of_mem_take hv')) ⟨hv,Q34.2 fun v hv'=>Q34.1 h2 v (Z5d hv')⟩⟩
theorem g_fn(n:Int)(h:0<=n/\n < G.fns.length):allT G.p (G.fns.getD n.toNat ⟨[],default⟩).body/\∀i∈(G.fns.getD n.toNat ⟨[],default⟩).params,G.S i:=by
 have hl:n.toNat < G.fns.length:=by omega
 rw[Z42,Z47 hl];exact hG.fn _ (Z4f hl)
theorem g_opN{t:Tr}(ht:allT G.p t):opdN t<=t.kids.length:=by
 have hsh:=g_sh hG ht;unfold opdN;split
 ·rename_i h;rcases h with h|h|h|h <;> rw[h]at hsh
  ·rw[hsh.lett.1];omega
  ·rw[hsh.case.1];omega
  ·rw[hsh.handle.1];omega
  ·rw[(hsh.one (.inr (.inl rfl))).1];omega
 ·omega
omit hG in
theorem shp_ops{o n:Int}{a:List Alt}(h:ShN o n b k a):0<=o/\o<=17:=by
 by_cases h7:o=7∨o=13
 ·omega
 ·obtain⟨w,⟨ops,hl,hw⟩,_⟩:=h.want h7;refine Classical.byContradiction fun hc=>?_;have h0:wants ⟨o,n,b,ops,a⟩=none:=by unfold wants;simp only;rw[if_neg zoy,if_neg zoy,if_neg zoy,if_neg zoy,if_neg zoy,if_neg zoy,if_neg zoy,if_neg zoy,if_neg zoy,if_neg zoy,if_neg zoy,if_neg zoy]
  rw[h0]at hw;cases hw
theorem kidM_g{m m':Ms}{f:Fm}{k:List Fm}(ht:allT G.p f.t)(he:gE G f.e)(hd:gVs G f.done)(hl:f.done.length<=opdN f.t)(hn:nLf f.t.op)(hk:gFs G k)(hh:∀r∈m.heap,r.length<=1024/\gVs G r)(h:kidM fu G.fns m f k=.ok m'):gM G m':=by
 have hsh:=g_sh hG ht;have hop:=g_opN hG ht;have hv:=Q4n hd 0;unfold kidM at h;split at h
 ·rename_i hlt;cases h;refine⟨⟨Q4r ht zoy,he⟩,⟨?_,hk⟩,hh⟩;cases f;exact⟨ht,he,hd,hlt,hn⟩
 rename_i hge;split at h
 ·rename_i h4;cases h;rw[h4]at hsh;obtain⟨h1,h2,h3⟩:=hsh.lett;refine⟨⟨Q4r ht zoy,?_,hv,he⟩,hk,hh⟩;have:=g_bnd hG ht;unfold Q0h at this;rw[if_pos zoy]at this
  match hb:f.t.binds,h2 with
  |[x],_=>rw[hb]at this;exact this x zsy
 split at h
 ·rename_i h7;unfold Q4e at h;split at h
  ·rename_i tag fs Z0z;cases hc:Q2m tag fs f.e f.t.kids 0 f.t.alts with
   |error c=>rw[hc]at h;cases h
   |ok c=>
    rw[hc]at h;cases h;rw[Z0z]at hv;exact⟨Qhx hG ht h7 he hv _ 0 rfl hc,hk,hh⟩
  ·cases h
 split at h
 ·rename_i h3;have hd1:gVs G (f.done.drop 1):=Q34.2 fun v hv'=>Q34.1 hd v (Z5d hv');unfold Qd4 at h;split at h
  ·rename_i t e hclo;rw[hclo]at hv;split at h
   ·cases h;have h1:=g_sh hG hv.2.1;have h2:=g_bnd hG hv.2.1;rw[hv.1]at h1;unfold Q0h at h2;rw[hv.1,if_pos zsy]at h2;refine⟨⟨Q4r hv.2.1 (by have:=h1.lam.1;omega),Qcr hv.2.2 hd1 fun i hi=>h2 i (Z50.2 (.inl hi))⟩,hk,hh⟩
   ·cases h
  ·rename_i n slots hcap;rw[hcap]at hv;split at h
   ·cases h;have:=g_fn hG n hv.1;exact⟨⟨this.1,Qcr trivial ⟨hv,hd1⟩ this.2⟩,hk,hh⟩
   ·cases h
  ·rename_i fs hres;rw[hres]at hv;split at h
   ·rename_i a ha;cases h;rw[ha]at hd1;exact⟨hd1.1,Qjb hv.2 hk,hh⟩
   ·cases h
  ·cases h
 split at h
 ·rename_i h13;cases h;rw[h13]at hsh;obtain⟨h1,h2,h3,h4⟩:=hsh.handle;refine⟨⟨Q4r ht zoy,?_,hv,he⟩,hk,hh⟩;obtain⟨a,ha⟩:∃a,f.t.alts[0]?=some a:=⟨_,Z47 zoy⟩;have hb:=(h4 0 a ha).2;rw[if_pos rfl]at hb;have hS:=Qqb hG ht ha;have hga:f.t.alts.getD 0 ⟨0,[]⟩=a:=by rw[Z42,ha];rfl
  rw[hga]
  match hab:a.binds,hb with
  |[x],_=>rw[hab]at hS;exact hS x zsy
 split at h
 ·rename_i h12;exact Qdt hG (hG.rs _ (Q2f ht) h12) (l:=[]) hv hh trivial hk h
 split at h
 ·rename_i h14;cases h;have:=g_fn hG f.t.n (hG.cl _ (Q2f ht) (.inl h14));exact⟨⟨this.1,Qcr trivial hd this.2⟩,hk,hh⟩
 split at h
 ·rename_i h15;cases h;exact⟨⟨hG.cl _ (Q2f ht) (.inr h15),hd⟩,hk,hh⟩
 split at h
 ·split at h
  ·rename_i n slots hcap;rw[hcap]at hv;split at h
   ·cases h;exact⟨Q4n hv.2 _,hk,hh⟩
   ·cases h
  ·cases h
 ·rename_i h4 h7 h3 h13 h12 h14 h15 h16;cases hp:Q6b fu { m with k:=k } f.t f.done with
  |error c=>rw[hp]at h;cases h
  |ok mv=>
   obtain⟨m2,v2⟩:=mv;rw[hp]at h;cases h;have hlen:f.done.length=f.t.kids.length:=by unfold opdN at hge hl;rw[if_neg zoy]at hge hl;omega
   obtain⟨g1,g2⟩:=Qs8 hG (m:={ m with k:=k }) ht (by have:=shp_ops hsh;unfold nLf at hn;omega) hlen hd hh hp;refine⟨g1,?_,g2⟩;rw[(Q6n hp).2.2];exact hk
theorem Qrv{m m':Ms}{t:Tr}{e:En}(ht:allT G.p t)(he:gE G e)(hk:gFs G m.k)(hh:∀r∈m.heap,r.length<=1024/\gVs G r)(h:Q3w fu G.fns m t e=.ok m'):gM G m':=by
 unfold Q3w at h;split at h
 ·cases h;exact⟨Qjc hG he,hk,hh⟩
 split at h
 ·rename_i h1;cases h;exact⟨hG.wd _ (Q2f ht) h1,hk,hh⟩
 split at h
 ·rename_i h2;cases h;exact⟨⟨h2,ht,he⟩,hk,hh⟩
 split at h
 ·cases h
 split at h
 ·rename_i h5;cases h;have hsh:=g_sh hG ht;rw[h5]at hsh;exact⟨⟨Q4r ht (by have:=hsh.recs.1;omega),h5,ht,he⟩,hk,hh⟩
 ·rename_i h0 h1 h2 h17 h5;exact kidM_g hG (f:=.mk t e []) ht he trivial (Z6m _) (fun hh=>hh.elim h0 fun hh=>hh.elim h1 fun hh=>hh.elim h2 fun hh=>hh.elim h17 h5) hk hh h
theorem Qke{m m':Ms}(hm:gM G m)(h:Q29 fu G.fns m=.next m'):gM G m':=by
 unfold Q29 at h;split at h
 ·rename_i v hc;have hv:gV G v:=by have:=hm.c;rw[hc]at this;exact this
  split at h
  ·cases h
  ·rename_i f k hk;have hf:=hm.k;rw[hk]at hf;split at h
   ·rename_i m2 Z0d;cases h;obtain⟨g1,g2,g3,g4,g5⟩:=gF_iff.1 hf.1;exact kidM_g hG (f:=.mk f.t f.e (f.done++[v])) g1 g2 (Qja (b:=[v]) g3 ⟨hv,trivial⟩) (by simp only[Qy2,Qy0,Z4g,Z4o];omega) g5 hf.2 hm.h Z0d
   ·cases h
 ·rename_i t e hc;have ht:allT G.p t/\gE G e:=by have:=hm.c;rw[hc]at this;exact this
  split at h
  ·cases h
  ·split at h
   ·rename_i m2 hst;cases h;exact Qrv hG (m:={ m with steps:=m.steps+1 }) ht.1 ht.2 hm.k hm.h hst
   ·cases h
end
end Go.CoreX
namespace Go.CoreX
structure Sim where
 ν:Int->Int
 eb:En
 kb:List Fm
 ob:List Int
 hb:List (List Vl)
 st:Int
section
variable {s:Sim}{G:GP}
section
variable (ν:Int->Int)(t:Tr)
end
end
end Go.CoreX
namespace Go.CoreX
section
variable {s:Sim}{G:GP}
def goX (fu:Int)(fns:List Fun):Nat->Ms->Option Rd
 |0,_=>none
 |g+1,m=>match Q29 fu fns m with
  |.next m'=>goX fu fns g m'
  |r=>some r
def outR:Rd->Nat
 |.done m _=>m.out.length
 |.trap _ m=>m.out.length
 |.next m=>m.out.length
 |.fuel=>1001
theorem Qs7{m m':Ms}{n:Int}{l:List Vl}{v:Vl}(h:Q84 fu m n l=.ok (m',v)):m.out.length<=m'.out.length:=by
 unfold Q84 at h;repeat' split at h
 all_goals try (simp only[bind,Except.bind,pure,Except.pure]at h;repeat' split at h)
 all_goals try (cases h;done)
 all_goals try (cases h;exact Z6b _)
 ·cases h;simp
 ·unfold Qlk at h;repeat' split at h
  all_goals try (cases h;done)
  cases h;exact Z6b _
 ·unfold Qg7 at h;simp only[bind,Except.bind,pure,Except.pure]at h;repeat' split at h
  all_goals try (cases h;done)
  all_goals (cases h;exact Z6b _)
theorem Qon{m m':Ms}{t:Tr}{l:List Vl}{v:Vl}(h:Q6b fu m t l=.ok (m',v)):m.out.length<=m'.out.length:=by
 unfold Q6b at h;repeat' split at h
 ·cases h;exact Z6b _
 ·exact Qs7 h
 ·cases h;exact Z6b _
 ·simp only[bind,Except.bind,pure,Except.pure]at h;repeat' split at h
  all_goals try (cases h;done)
  all_goals (cases h;exact Z6b _)
 ·simp only[bind,Except.bind,pure,Except.pure]at h;repeat' split at h
  all_goals try (cases h;done)
  all_goals (cases h;exact Z6b _)
theorem Qc6{m m':Ms}{op:Int}{v:Vl}:∀(l k:List Fm),Q5a m op v l k=.ok m'->m'.out=m.out
 |_,[],h=>by cases h
 |l,f::k,h=>by
  unfold Q5a at h;split at h
  ·cases h;rfl
  ·exact Qc6 _ k h
theorem Qpn{fns:List Fun}{m m':Ms}{f:Fm}{k:List Fm}(h:kidM fu fns m f k=.ok m'):m.out.length<=m'.out.length:=by
 unfold kidM at h;repeat' split at h
 all_goals try (cases h;done)
 all_goals try (cases h;exact Z6b _)
 ·unfold Q4e at h;split at h
  ·cases hc:Q2m _ _ f.e f.t.kids 0 f.t.alts <;> rw[hc]at h <;> cases h;exact Z6b _
  ·cases h
 ·unfold Qd4 at h;repeat' split at h
  all_goals try (cases h;done)
  all_goals (cases h;exact Z6b _)
 ·rw[Qc6 _ _ h];exact Z6b _
 ·cases hp:Q6b fu { m with k:=k } f.t f.done with
  |error c=>rw[hp]at h;cases h
  |ok mv=>
   rw[hp]at h;cases h;obtain⟨m2,v2⟩:=mv;exact Qon (m:={ m with k:=k }) (m':=m2) hp
theorem Qo2{fns:List Fun}{m m':Ms}{t:Tr}{e:En}(h:Q3w fu fns m t e=.ok m'):m.out.length<=m'.out.length:=by
 unfold Q3w at h;repeat' split at h
 all_goals try (cases h;done)
 all_goals try (cases h;exact Z6b _)
 exact Qpn h
theorem Qoh{fns:List Fun}{m m':Ms}(h:Q29 fu fns m=.next m'):m.out.length<=m'.out.length:=by
 unfold Q29 at h;repeat' split at h
 all_goals try (cases h;done)
 ·rename_i hk;cases h;exact Qpn hk
 ·rename_i hk;cases h;exact Qo2 (m:={ m with steps:=m.steps+1 }) hk
theorem Qqa{fu:Int}{fns:List Fun}:∀{g:Nat}{m:Ms}{r:Rd},goX fu fns g m=some r->m.out.length<=outR r∨r=.fuel
 |0,_,_,h=>by cases h
 |g+1,m,r,h=>by
  simp only[goX]at h;cases hr:Q29 fu fns m with
  |next m'=>
   rw[hr]at h;rcases Qqa h with h1|h1
   ·exact .inl (Z6c (Qoh hr) h1)
   ·exact .inr h1
  |done m' v=>
   rw[hr]at h;cases h;unfold Q29 at hr;repeat' split at hr
   all_goals try (cases hr;done)
   cases hr;exact .inl (Z6b _)
  |fuel=>rw[hr]at h;cases h;exact .inr rfl
  |trap c m'=>
   rw[hr]at h;cases h;unfold Q29 at hr;repeat' split at hr
   all_goals try (cases hr;done)
   all_goals (cases hr;exact .inl (Z6b _))
def rdOf (m:Ms):Except Int Ms->Rd
 |.ok m'=>.next m'
 |.error c=>.trap c m
theorem Qf8{fns:List Fun}{m:Ms}{t:Tr}{e:En}(hc:m.c=.ev t e)(h:¬m.steps=fu):Q29 fu fns m=rdOf { m with steps:=m.steps+1 } (Q3w fu fns { m with steps:=m.steps+1 } t e):=by
 unfold Q29;split
 ·rename_i hv;rw[hc]at hv;cases hv
 ·rename_i hv;rw[hc]at hv;cases hv;rw[if_neg h];rfl
theorem Qf7{fns:List Fun}{m:Ms}{v:Vl}{f:Fm}{k:List Fm}(hc:m.c=.rt v)(hk:m.k=f::k):Q29 fu fns m=rdOf m (kidM fu fns m (.mk f.t f.e (f.done++[v])) k):=by simp only[Q29,hc,hk];rfl
end
end Go.CoreX
namespace Go.CoreX
theorem Qk9{fns:List Fun}{m m':Ms}{t:Tr}{e:En}(h:Q3w fu fns m t e=.ok m'):m.steps<=m'.steps:=by
 unfold Q3w at h;repeat' split at h
 all_goals try (cases h;done)
 all_goals try (cases h;exact Z36 _)
 exact (Qa1 h [] .nil (.inr ⟨rfl,rfl⟩)).ge
def stepsR:Rd->Int
 |.done m _=>m.steps
 |.trap _ m=>m.steps
 |.next m=>m.steps
 |.fuel=>0
theorem Qs3{fns:List Fun}{m m':Ms}(h:Q29 fu fns m=.next m'):m.steps<=m'.steps:=by
 unfold Q29 at h;repeat' split at h
 all_goals try (cases h;done)
 ·rename_i f k hk _ _ Z0d;cases h;exact (Qa1 Z0d f.done _ (.inl rfl)).ge
 ·rename_i hst;cases h;have:=Qk9 hst;simp only at this;omega
theorem Qgr{fns:List Fun}{m:Ms}{r:Rd}(h:Q29 fu fns m=r):(∀c m',r=.trap c m'->m.steps<=m'.steps)/\(∀m' v,r=.done m' v->m'=m/\m.c=.rt v/\m.k=[]):=by
 subst h;constructor
 ·intro c m' h;unfold Q29 at h;repeat' split at h
  all_goals try (cases h;done)
  ·cases h;exact Z36 _
  ·cases h;simp only;omega
 ·intro m' v h;unfold Q29 at h;repeat' split at h
  all_goals try (cases h;done)
  rename_i hc _ hk;cases h;exact⟨rfl,hc,hk⟩
theorem goX_ge{fu:Int}{fns:List Fun}:∀{g:Nat}{m:Ms}{r:Rd},goX fu fns g m=some r->r≠.fuel->m.steps<=stepsR r
 |0,_,_,h,_=>by cases h
 |g+1,m,r,h,hf=>by
  simp only[goX]at h;cases hr:Q29 fu fns m with
  |next m'=>rw[hr]at h;exact Int.le_trans (Qs3 hr) (goX_ge h hf)
  |done m' v=>rw[hr]at h;cases h;rw[((Qgr hr).2 _ _ rfl).1];exact Z36 _
  |fuel=>rw[hr]at h;cases h;exact absurd rfl hf
  |trap c m'=>rw[hr]at h;cases h;exact (Qgr hr).1 _ _ rfl
end Go.CoreX
namespace Go.Proofs.YtlmokgooijbcdaaGreatDoor
set_option linter.unusedSectionVars false
abbrev tClo:Nat:=244
abbrev tObj:Nat:=193
abbrev tRow:Nat:=286
abbrev tArr:Nat:=329
abbrev tRes:Nat:=277
abbrev tCap:Nat:=238
abbrev tTrap:Nat:=151
abbrev Q2b:AC:=.lit (.pointer none)
abbrev Hm:=Nat->Option (List AC)
abbrev Nm2:=List (Nat×Nat)
def iW (n:Int):AC:=.ifc 3 false [int n]
def iB (t:Nat)(cs:List AC):AC:=.ifc t false [.box cs]
inductive RecC (H:Hm)(t:Tr)(top:AC):Nat->AC->AC->Prop
 |zero (c:AC):RecC H t top 0 c c
 |succ (i k q:Nat) (c b:AC) (hk:H k=some [int (t.binds.getD i 0),.ifc tClo false [.ptr (.o q) 0],c]) (hq:H q=some [.box (cTr (t.kids.getD i default)),top]) (h:RecC H t top i c b):RecC H t top (i+1) (.ptr (.o k) 0) b
mutual
inductive VR (H:Hm)(nm:Nm2):Vl->AC->Prop
 |nil:VR H nm .nil (.lit .nilIface)
 |word (n:Int):VR H nm (.word n) (iW n)
 |clo (t:Tr) (e:En) (c:AC) (he:ER H nm e c):VR H nm (.clo t e) (iB tClo [.box (cTr t),c])
 |cloP (t:Tr) (e:En) (c:AC) (k:Nat) (hk:H k=some [.box (cTr t),c]) (he:ER H nm e c):VR H nm (.clo t e) (.ifc tClo false [.ptr (.o k) 0])
 |obj (g:Int) (fs:List Vl) (cs:List (List AC)) (h:VsR H nm fs cs):VR H nm (.obj g fs) (iB tObj [int g,.sl 1 cs])
 |row (ls:List Int) (fs:List Vl) (cs:List (List AC)) (h:VsR H nm fs cs):VR H nm (.row ls fs) (iB tRow [.sl 1 (ls.map cI),.sl 1 cs])
 |arr (a k n:Nat) (h:nm[a]?=some (k,n)):VR H nm (.arr a) (iB tArr [.arr (.o k) 1 0 n n])
 |res (fs:List Fm) (l:List (List AC)) (h:FsR H nm fs l):VR H nm (.res fs) (iB tRes [.sl 1 l])
 |cap (n:Int) (fs:List Vl) (cs:List (List AC)) (h:VsR H nm fs cs):VR H nm (.cap n fs) (iB tCap [int n,.sl 1 cs])
inductive VsR (H:Hm)(nm:Nm2):List Vl->List (List AC)->Prop
 |nil:VsR H nm [] []
 |cons (v:Vl) (c:AC) (vs:List Vl) (cs:List (List AC)) (hv:VR H nm v c) (h:VsR H nm vs cs):VsR H nm (v::vs) ([c]::cs)
inductive ER (H:Hm)(nm:Nm2):En->AC->Prop
 |nil:ER H nm .nil Q2b
 |bind (i:Int) (v:Vl) (n:En) (k:Nat) (vc nc:AC) (hk:H k=some [int i,vc,nc]) (hv:VR H nm v vc) (hn:ER H nm n nc):ER H nm (.bind i v n) (.ptr (.o k) 0)
 |recs (t:Tr) (n:En) (c nc:AC) (hc:RecC H t c t.binds.length c nc) (hn:ER H nm n nc):ER H nm (.recs t n) c
inductive FR (H:Hm)(nm:Nm2):Fm->AC->Prop
 |mk (t:Tr) (e:En) (d:List Vl) (ec:AC) (dc:List (List AC)) (nx:AC) (hx:nx.ids isO) (he:ER H nm e ec) (hd:VsR H nm d dc):FR H nm (.mk t e d) (.box [.box (cTr t),ec,.sl 1 dc,nx])
inductive FsR (H:Hm)(nm:Nm2):List Fm->List (List AC)->Prop
 |nil:FsR H nm [] []
 |cons (f:Fm) (c:AC) (fs:List Fm) (cs:List (List AC)) (hf:FR H nm f c) (h:FsR H nm fs cs):FsR H nm (f::fs) ([c]::cs)
end
inductive KR (H:Hm)(nm:Nm2):List Fm->AC->Prop
 |nil:KR H nm [] Q2b
 |cons (t:Tr) (e:En) (d:List Vl) (k:List Fm) (ec:AC) (dc:List (List AC)) (kc:AC) (he:ER H nm e ec) (hd:VsR H nm d dc) (hk:KR H nm k kc):KR H nm (.mk t e d::k) (.box [.box (cTr t),ec,.sl 1 dc,kc])
structure Mo (H:Hm)(nm:Nm2)(H':Hm)(nm':Nm2):Prop where
 h:∀k cs,H k=some cs->H' k=some cs
 n:∀(a:Nat) (x:Nat×Nat),nm[a]?=some x->nm'[a]?=some x
theorem Mo.refl(H:Hm)(nm:Nm2):Mo H nm H nm:=⟨fun _ _ h=>h,fun _ _ h=>h⟩
theorem Mo.trans{H H1 H2:Hm}{n n1 n2:Nm2}(a:Mo H n H1 n1)(b:Mo H1 n1 H2 n2):Mo H n H2 n2:=⟨fun k cs h=>b.h k cs (a.h k cs h),fun k x h=>b.n k x (a.n k x h)⟩
section
variable {H H':Hm}{nm nm':Nm2}(hm:Mo H nm H' nm')
include hm
theorem RecC.mo{t:Tr}{top:AC}:∀{i:Nat}{c b:AC},RecC H t top i c b->RecC H' t top i c b
 |_,_,_,.zero c=>.zero c
 |_,_,_,.succ i k q c b hk hq h=>.succ i k q c b (hm.h _ _ hk) (hm.h _ _ hq) (RecC.mo h)
mutual
theorem VR.mo:∀{v:Vl}{c:AC},VR H nm v c->VR H' nm' v c
 |_,_,.nil=>.nil
 |_,_,.word n=>.word n
 |_,_,.clo t e c he=>.clo t e c (ER.mo he)
 |_,_,.cloP t e c k hk he=>.cloP t e c k (hm.h _ _ hk) (ER.mo he)
 |_,_,.obj g fs cs h=>.obj g fs cs (VsR.mo h)
 |_,_,.row ls fs cs h=>.row ls fs cs (VsR.mo h)
 |_,_,.arr a k n h=>.arr a k n (hm.n _ _ h)
 |_,_,.res fs l h=>.res fs l (FsR.mo h)
 |_,_,.cap n fs cs h=>.cap n fs cs (VsR.mo h)
theorem VsR.mo:∀{v:List Vl}{c:List (List AC)},VsR H nm v c->VsR H' nm' v c
 |_,_,.nil=>.nil
 |_,_,.cons v c vs cs hv h=>.cons v c vs cs (VR.mo hv) (VsR.mo h)
theorem ER.mo:∀{e:En}{c:AC},ER H nm e c->ER H' nm' e c
 |_,_,.nil=>.nil
 |_,_,.bind i v n k vc nc hk hv hn=>.bind i v n k vc nc (hm.h _ _ hk) (VR.mo hv) (ER.mo hn)
 |_,_,.recs t n c nc hc hn=>.recs t n c nc (RecC.mo hm hc) (ER.mo hn)
theorem FR.mo:∀{f:Fm}{c:AC},FR H nm f c->FR H' nm' f c
 |_,_,.mk t e d ec dc nx hx he hd=>.mk t e d ec dc nx hx (ER.mo he) (VsR.mo hd)
theorem FsR.mo:∀{f:List Fm}{c:List (List AC)},FsR H nm f c->FsR H' nm' f c
 |_,_,.nil=>.nil
 |_,_,.cons f c fs cs hf h=>.cons f c fs cs (FR.mo hf) (FsR.mo h)
end
theorem KR.mo:∀{k:List Fm}{c:AC},KR H nm k c->KR H' nm' k c
 |_,_,.nil=>.nil
 |_,_,.cons t e d k ec dc kc he hd hk=>.cons t e d k ec dc kc (ER.mo hm he) (VsR.mo hm hd) (KR.mo hk)
end
section
variable {H:Hm}{nm:Nm2}
theorem RecC.ids{t:Tr}{top:AC}:∀{i:Nat}{c b:AC},RecC H t top i c b->b.ids isO->c.ids isO
 |_,_,_,.zero c,h=>h
 |_,_,_,.succ i k q c b hk hq h,_=>trivial
mutual
theorem VR.ids:∀{v:Vl}{c:AC},VR H nm v c->c.ids isO
 |_,_,.nil=>trivial
 |_,_,.word n=>by simp[iW,AC.ids,idsL]
 |_,_,.clo t e c he=>⟨⟨by simp,ER.ids he,trivial⟩,trivial⟩
 |_,_,.cloP t e c k hk he=>⟨trivial,trivial⟩
 |_,_,.obj g fs cs h=>⟨⟨trivial,VsR.ids h,trivial⟩,trivial⟩
 |_,_,.row ls fs cs h=>⟨⟨by simp,VsR.ids h,trivial⟩,trivial⟩
 |_,_,.arr a k n h=>⟨⟨trivial,trivial⟩,trivial⟩
 |_,_,.res fs l h=>⟨⟨FsR.ids h,trivial⟩,trivial⟩
 |_,_,.cap n fs cs h=>⟨⟨trivial,VsR.ids h,trivial⟩,trivial⟩
theorem VsR.ids:∀{v:List Vl}{c:List (List AC)},VsR H nm v c->idsS isO c
 |_,_,.nil=>trivial
 |_,_,.cons v c vs cs hv h=>⟨⟨VR.ids hv,trivial⟩,VsR.ids h⟩
theorem ER.ids:∀{e:En}{c:AC},ER H nm e c->c.ids isO
 |_,_,.nil=>trivial
 |_,_,.bind i v n k vc nc hk hv hn=>trivial
 |_,_,.recs t n c nc hc hn=>RecC.ids hc (ER.ids hn)
theorem FR.ids:∀{f:Fm}{c:AC},FR H nm f c->c.ids isO
 |_,_,.mk t e d ec dc nx hx he hd=>⟨by simp,ER.ids he,VsR.ids hd,hx,trivial⟩
theorem FsR.ids:∀{f:List Fm}{c:List (List AC)},FsR H nm f c->idsS isO c
 |_,_,.nil=>trivial
 |_,_,.cons f c fs cs hf h=>⟨⟨FR.ids hf,trivial⟩,FsR.ids h⟩
end
theorem KR.ids:∀{k:List Fm}{c:AC},KR H nm k c->c.ids isO
 |_,_,.nil=>trivial
 |_,_,.cons t e d k ec dc kc he hd hk=>⟨by simp,ER.ids he,VsR.ids hd,KR.ids hk,trivial⟩
theorem VsR.len:∀{v:List Vl}{c:List (List AC)},VsR H nm v c->c.length=v.length
 |_,_,.nil=>rfl
 |_,_,.cons v c vs cs hv h=>by simp[VsR.len h]
theorem VsR.get:∀{v:List Vl}{c:List (List AC)}{i:Nat}{x:Vl},VsR H nm v c->v[i]?=some x->∃y,c[i]?=some [y]/\VR H nm x y
 |_,_,i,x,.nil,hx=>by simp at hx
 |_,_,0,x,.cons v c vs cs hv h,hx=>by simp at hx;subst hx;exact⟨c,rfl,hv⟩
 |_,_,i+1,x,.cons v c vs cs hv h,hx=>VsR.get (i:=i) h (by simpa using hx)
theorem VsR.snoc:∀{v:List Vl}{c:List (List AC)}{x:Vl}{y:AC},VsR H nm v c->VR H nm x y->VsR H nm (v++[x]) (c++[[y]])
 |_,_,x,y,.nil,hx=>.cons x y [] [] hx .nil
 |_,_,x,y,.cons v c vs cs hv h,hx=>.cons v c _ _ hv (VsR.snoc h hx)
end
variable {Γ:List (Nat×List AC)}
def unitF:FV:=.tup []
def trapE (c:Int):List PanicEntry:=[{ v:=.iface tTrap (.agg #[.int .i64 c]),recovered:=false }]
theorem Q8i{w:World}{c:Int}(h:R w C (.ifc tTrap true [int c]) v):[({ v:=v,recovered:=false }:PanicEntry)]=trapE c:=by
 obtain⟨xs,h1,⟨_,rfl⟩|⟨h2,_⟩⟩:=h
 ·simp only[RV]at h1;obtain⟨u,us,rfl,h3,rfl⟩:=h1;simp only[int,R]at h3;rw[h3.1];rfl
 ·cases h2
theorem Qjj:Tryz.prog.concrete 3=true:=by kernel_rfl
theorem Qd0:Tryz.prog.concrete tClo=true:=by kernel_rfl
theorem Q6y:Tryz.prog.concrete tObj=true:=by kernel_rfl
theorem Q9d:Tryz.prog.concrete tTrap=true:=by kernel_rfl
theorem z3(w:World):(zeroValue 3).run Tryz.prog w=.ok (.int .i64 0) w:=Qjx zky w
theorem zObj(w:World):(zeroValue tObj).run Tryz.prog w=.ok (.pointer none) w:=Qjx zky w
def notT (t:Nat)(c:AC):Prop:=c=.lit .nilIface∨∃t' ag cs,c=.ifc t' ag cs/\Nat.beq t' t=false
section
variable {H:Hm}{nm:Nm2}{v:Vl}{c:AC}
theorem VR.isWord(h:VR H nm v c):(∃n,v=.word n/\c=iW n)∨((∀n,v≠.word n)/\notT 3 c):=by cases h <;> first|exact .inl ⟨_,rfl,rfl⟩|exact .inr ⟨by simp,.inl rfl⟩|exact .inr ⟨by simp,.inr ⟨_,_,_,rfl,rfl⟩⟩
theorem VR.isObj(h:VR H nm v c):(∃g fs cs,v=.obj g fs/\c=iB tObj [int g,.sl 1 cs]/\VsR H nm fs cs)∨((∀g fs,v≠.obj g fs)/\notT tObj c):=by cases h <;> first|exact .inl ⟨_,_,_,rfl,rfl,‹_›⟩|exact .inr ⟨by simp,.inl rfl⟩|exact .inr ⟨by simp,.inr ⟨_,_,_,rfl,rfl⟩⟩
end
theorem Q3g(n:Int):Q09 Tryz.prog Γ 207 [.one (iW n)] (.one (int n)):=by intro ou;refine zwk 15 Tryz.func207 fun hou=>?_;refine zA ?_;refine zS (Qx9 Qjj rfl rfl) ?_;refine zA ?_;exact Q09.fin rfl (Z7h rfl) zsy hou rfl
theorem Qax(b:Bool):Q09 Tryz.prog Γ 209 [.one (.lit (.bool b))] (.one (iB tObj [int (if b then 1 else 0),.sl 1 []])):=by
 intro ou;refine zwk 10 Tryz.func209 fun hou=>?_;refine zA ?_;refine Q00.cond rfl (fun hb=>?_) (fun hb=>?_)
 ·subst hb;repeat ((fail_if_success ((with_reducible refine oj ?_);refine Qxs 6 rfl ?_));first|refine zO ?_)
  refine Z2l (.l 0) 5 rfl rfl ?_;refine Z2n 5 rfl (y:=.one (.box [int 1,.sl 1 []])) (.one (Z7g (.cons (.refl _) (.cons (.nilS 1) .nil)))) ?_;refine zS (Qx7 Q6y rfl rfl) ?_;refine zA ?_;exact Q09.fin rfl (Z7h rfl) (by simp[iB]) hou rfl
 ·subst hb;repeat ((fail_if_success ((with_reducible refine oj ?_);refine Qxs 9 rfl ?_));first|refine zO ?_)
  refine Z2l (.l 0) 8 rfl rfl ?_;refine Z2n 8 rfl (y:=.one (.box [int 0,.sl 1 []])) (.one (Z7g (.cons (.refl _) (.cons (.nilS 1) .nil)))) ?_;refine zS (Qx7 Q6y rfl rfl) ?_;refine zA ?_;exact Q09.fin rfl (Z7h rfl) (by simp[iB]) hou rfl
theorem Qg0(n:Int)(h0:-2305843009213693952<=n)(h1:n<=2305843009213693952):Q09 Tryz.prog Γ 206 [.one (int n)] (.one (int (Q5t n))):=by intro ou;refine zwk 7 Tryz.func206 fun hou=>?_;refine zM ?_;refine zS (Q01.and rfl rfl rfl) ?_;rw[Qty];have h4:0<=(n - (-1073741824)) % 2147483648:=Int.emod_nonneg _ zdy;have h5:(n - (-1073741824)) % 2147483648 < 2147483648:=Int.emod_lt_of_pos _ zdy;refine zM ?_;refine Q09.fin rfl (Z7h ?_) zsy hou rfl;unfold Q5t;congr 3
theorem Qpj{H:Hm}{nm:Nm2}{v:Vl}(h:VR H nm v c):Q09 Tryz.prog Γ 81 [.one c] (.one (int (Qfk v))):=by
 intro ou;refine zwk 17 Tryz.func81 fun hou=>?_;rcases h.isWord with ⟨n,rfl,rfl⟩|⟨hw,hn⟩
 ·refine zA ?_;refine zS (Qx9 Qjj rfl rfl) ?_;refine zA ?_;exact Q09.fin rfl (Z7h rfl) zsy hou rfl
 ·refine zA ?_;refine zS (Qxa Qjj rfl z3 rfl rfl hn) ?_;refine zA ?_;rcases h.isObj with ⟨g,fs,cs,rfl,rfl,h2⟩|⟨ho,hn2⟩
  ·refine zS (Qx9 Q6y rfl rfl) ?_;refine zA ?_;exact Q09.fin rfl (Z7h rfl) zsy hou rfl
  ·refine zS (Qxa Q6y rfl zObj rfl rfl hn2) ?_;refine zA ?_;refine Q09.fin rfl (Z7h ?_) zsy hou rfl;cases v <;> first|rfl|exact absurd rfl (hw _)|exact absurd rfl (ho _ _)
theorem Qca(t:Tr):Q09 Tryz.prog Γ 136 [.one (.box (cTr t))] (.one (int (opdN t))):=by
 intro ou;refine zwk 17 Tryz.func136 fun hou=>?_;unfold opdN;repeat' first|refine zN ?_|(with_reducible refine oj ?_;refine Qvi rfl rfl rfl rfl (fun hb=>?_) (fun hb=>?_))|(with_reducible refine ok ?_;first|refine Qwd rfl (fun hb=>?_) (fun hb=>?_)|refine Q00.cond rfl (fun hb=>?_) (fun hb=>?_))
 all_goals (refine Q09.fin rfl (Z7h ?_) zsy hou rfl)
 all_goals (simp_all[int,Q0i])
theorem Qig(id:Int)(vc ec:AC)(hv:vc.ids isO)(he:ec.ids isO)(ou:Q03):AFn Tryz.prog Γ 137 [.one ec,.one (int id),.one vc] ou
  (fun r ou'=>∃k,r=.one (.ptr (.o k) 0)/\NewO ou ou' [(k,.cells [int id,vc,ec])]):=by
 refine zwk 12 Tryz.func137 fun hou=>?_;repeat ((fail_if_success ((with_reducible refine oj ?_);refine Qxs 11 rfl ?_));first|refine zO ?_)
 (first|((with_reducible refine oj ?_);refine zau ?_)|(with_reducible refine zst ?_)|((with_reducible refine Q0e ?_ ?_);rfl)|(with_reducible refine ok ?_;first|refine Q00.condT rfl ?_|refine Q00.condF rfl ?_))
 refine Z2k [0] rfl zdy hou fun k hk=>⟨[(11,.one (.ptr (.o k) 0))],[],[.cells [int id,vc,ec]],.cons rfl rfl .nil,.nil,?_,?_⟩
 ·exact .cons rfl (Z2g (fun i hi=>by cases i with|l q=>exact hi.elim|o q=>rfl) _ ⟨trivial,hv,he,trivial⟩) .nil
 have hN:=NewO.add hk hou (show (AObj.cells [int id,vc,ec]).ids isO from ⟨trivial,hv,he,trivial⟩);refine zA ?_;exact Qwm rfl (Z7h rfl) zsy hN.ok ⟨k,rfl,hN⟩
inductive Ch (H:Hm):AC->List (Int×AC)->Prop
 |nil:Ch H Q2b []
 |cons (i:Int) (k:Nat) (vc nc:AC) (l:List (Int×AC)) (hk:H k=some [int i,vc,nc]) (h:Ch H nc l):Ch H (.ptr (.o k) 0) ((i,vc)::l)
def lookI (id:Int):List (Int×AC)->AC
 |[]=>.lit .nilIface
 |(i,c)::l=>if i=id then c else lookI id l
theorem RecC.ch{H:Hm}{t:Tr}{top:AC}{b:AC}{lb:List (Int×AC)}(hb:Ch H b lb):∀{i:Nat}{c:AC},RecC H t top i c b->
  ∃l,Ch H c l/\∀id,(∃j q,Qcl t.binds id i=some j/\lookI id l=.ifc tClo false [.ptr (.o q) 0]/\H q=some [.box (cTr (t.kids.getD j default)),top])∨(Qcl t.binds id i=none/\lookI id l=lookI id lb)
 |_,_,.zero c=>⟨lb,hb,fun id=>.inr ⟨rfl,rfl⟩⟩
 |_,_,.succ i k q c b hk hq h=>by
  obtain⟨l,h1,h2⟩:=RecC.ch hb h;refine⟨_,.cons _ k _ _ l hk h1,fun id=>?_⟩;simp only[lookI,Qcl];by_cases e:t.binds.getD i 0=id
  ·exact .inl ⟨i,q,by rw[if_pos e],by rw[if_pos e],hq⟩
  ·rw[if_neg e,if_neg e];exact h2 id
theorem ER.ch{H:Hm}{nm:Nm2}:∀{e:En}{c:AC},ER H nm e c->∃l,Ch H c l/\∀id,VR H nm (Qb4 id e) (lookI id l)
 |_,_,.nil=>⟨[],.nil,fun id=>by simp only[Qb4,lookI];exact .nil⟩
 |_,_,.bind i v n k vc nc hk hv hn=>by
  obtain⟨l,h1,h2⟩:=ER.ch hn;refine⟨_,.cons i k vc nc l hk h1,fun id=>?_⟩;simp only[Qb4,lookI];by_cases e:i=id
  ·rw[if_pos e,if_pos e];exact hv
  ·rw[if_neg e,if_neg e];exact h2 id
 |_,_,.recs t n c nc hc hn=>by
  obtain⟨l,h1,h2⟩:=ER.ch hn;obtain⟨l',h3,h4⟩:=hc.ch h1;refine⟨l',h3,fun id=>?_⟩;simp only[Qb4];rcases h4 id with ⟨j,q,h5,h6,h7⟩|⟨h5,h6⟩
  ·rw[h5,h6];exact .cloP _ _ _ q h7 (.recs t n c nc hc hn)
  ·rw[h5,h6];exact h2 id
theorem Q4c(h:c.ids isO)(n:Nat):c.ids (inL n):=AC.ids_mono (fun i hi=>by cases i with|l k=>exact hi.elim|o k=>trivial) c h
theorem Q7h{c:List (List AC)}(h:idsS isO c)(n:Nat):idsS (inL n) c:=Q8x (fun i hi=>by cases i with|l k=>exact hi.elim|o k=>trivial) c h
def InOu (H:Hm)(ou:Q03):Prop:=∀k cs,H k=some cs->ou k=some (.cells cs)
theorem Qqj(hΓ:GI Γ){H:Hm}{l:List (Int×AC)}(hc:Ch H c l)(id:Int)(ou:Q03)(hH:InOu H ou)(hci:c.ids isO)(hli:(lookI id l).ids isO):
  AFn Tryz.prog Γ 144 [.one c,.one (int id)] ou (fun r ou'=>r=.one (lookI id l)/\ou'=ou):=by
 refine zwk 21 Tryz.func144 fun hou=>?_;refine zA ?_;refine Qv6 hΓ (α:=AC×List (Int×AC)) (fun a=>[(1,.one (int id)),(0,.one a.1)]) (fun a=>⟨0,[],ou⟩) (fun m a=>Ch H a.1 a.2/\lookI id a.2=lookI id l/\a.1.ids isO/\m=a.2.length) (a0:=(c,l)) (ρ:=_root_.id) ⟨hc,rfl,hci,rfl⟩ (Z39 rfl zFW (by simp[Q4c hci]) zLO rfl rfl hou) fun m a ha=>?_;obtain⟨c1,l1⟩:=a;obtain⟨h1,h2,h3,rfl⟩:=ha;dsimp only at h1 h2 h3 ⊢;cases h1 with
 |nil=>
  refine zA ?_;refine zS (Qx4 Tryz.underlying100 rfl rfl rfl) ?_;refine zA ?_;exact Qwm (r':=.one (lookI id l)) rfl (Z7h (by rw[←h2];rfl)) hli hou ⟨rfl,rfl⟩
 |cons i k vc nc l2 hk hch=>
  have hx:=hH k _ hk;have Qz6:idsL isO [int i,vc,nc]:=hou k _ hx;have hnc:nc.ids isO:=Qz6.2.2.1;refine zA ?_;refine zS (Qx3 Tryz.underlying100 rfl rfl rfl) ?_;repeat' first|refine zN ?_|((with_reducible refine oj ?_);first|refine zix ?_|refine zow rfl rfl hx ?_)
  refine Q00.cond rfl (fun hb=>?_) (fun hb=>?_)
  ·have he:i=id:=by simpa using hb
   repeat' first|refine zN ?_|((with_reducible refine oj ?_);first|refine zix ?_|refine zow rfl rfl hx ?_)
   exact Qwm (r':=.one (lookI id l)) rfl (Z7h (by rw[←h2];simp[lookI,he])) hli hou ⟨rfl,rfl⟩
  ·have he:i≠id:=by simpa using hb
   repeat' first|refine zN ?_|((with_reducible refine oj ?_);first|refine zix ?_|refine zow rfl rfl hx ?_)
   exact cInv ⟨l2.length,(nc,l2),_root_.id,by simp,⟨hch,by rw[←h2];simp[lookI,he],hnc,rfl⟩,Z39 rfl zFW (by simp[Q4c hnc]) zLO rfl rfl hou⟩
def plainO:AObj->Prop
 |.cells _=>True
 |.tok _ _ _=>True
 |.dead=>True
 |_=>False
structure Gro (ou:Q03)(H:Hm)(ou':Q03)(H':Hm):Prop where
 h:∀k cs,H k=some cs->H' k=some cs
 new:∀k,H k=none->H' k≠none->ou k=none
 old:∀k o,ou k=some o->ou' k=some o
 inO:InOu H' ou'
 ok:OuOk ou'
 pl:∀k o,ou' k=some o->ou k=some o∨plainO o
theorem Gro.refl{H:Hm}(h:InOu H ou)(ho:OuOk ou):Gro ou H ou H:=⟨fun _ _ h=>h,fun k h1 h2=>absurd h1 h2,fun _ _ h=>h,h,ho,fun _ _ h=>.inl h⟩
theorem Gro.trans{H H1 H2:Hm}(a:Gro ou H ou1 H1)(b:Gro ou1 H1 ou2 H2):Gro ou H ou2 H2:=by
 refine⟨fun k cs h=>b.h k cs (a.h k cs h),fun k h1 h2=>?_,fun k o h=>b.old k o (a.old k o h),b.inO,b.ok,fun k o h=>(b.pl k o h).elim (a.pl k o) .inr⟩;by_cases h3:H1 k=none
 ·have:=b.new k h3 h2;cases h4:ou k with
  |none=>rfl
  |some o=>rw[a.old k o h4]at this;cases this
 ·exact a.new k h1 h3
theorem Gro.mo{H H':Hm}(g:Gro ou H ou' H')(nm:Nm2):Mo H nm H' nm:=⟨g.h,fun _ _ h=>h⟩
def addH (H:Hm)(k:Nat)(cs:List AC):Hm:=fun j=>if j=k then some cs else H j
theorem Gro.add{H:Hm}(h:InOu H ou){cs:List AC}(hN:NewO ou ou' [(k,.cells cs)]):Gro ou H ou' (addH H k cs):=by
 have hk:ou k=none:=hN.new k (by simp[keys]);have hHk:H k=none:=by
  cases h1:H k with
  |none=>rfl
  |some c=>rw[h k c h1]at hk;cases hk
 have hold:∀j o,ou j=some o->ou' j=some o:=fun j o hj=>by rw[hN.old j (by simp[keys];rintro rfl;rw[hk]at hj;cases hj)];exact hj
 refine⟨fun j c hj=>?_,fun j h1 h2=>?_,hold,fun j c hj=>?_,hN.ok,fun j o hj=>?_⟩
 ·unfold addH;rw[if_neg (by rintro rfl;rw[hHk]at hj;cases hj)];exact hj
 ·unfold addH at h2;split at h2
  ·rename_i e;rw[e];exact hk
  ·exact absurd h1 h2
 ·unfold addH at hj;split at hj
  ·rename_i e;subst e;cases hj;exact hN.own (j,_) zsy
  ·exact hold j _ (h j c hj)
 ·by_cases e:j=k
  ·subst e;have:=hN.own (j,_) (Z5h.2 rfl);rw[this]at hj;cases hj;exact .inr trivial
  ·rw[hN.old j (by simp[keys];exact e)]at hj;exact .inl hj
theorem Qi9(x:Int):∀(b:List Int)(l:List Vl)(e:En),allE e (b++[x]) l=.bind x (l.getD b.length .nil) (allE e b l)
 |[],l,e=>by cases l <;> simp[allE]
 |y::b,l,e=>by simp only[Z3g,allE,Qi9 x b];cases l <;> simp
theorem Qr6(hΓ:GI Γ){H:Hm}{nm:Nm2}{e:En}{l:List Vl}(he:ER H nm e ec)(hl:VsR H nm l cs)(hbl:b.length=l.length)(Z0t:b.length<=1048576)(ou:Q03)(hH:InOu H ou):
  AFn Tryz.prog Γ 141 [.one ec,.one (.sl 1 (b.map cI)),.one (.sl 1 cs)] ou (fun r ou'=>∃H' c,r=.one c/\Gro ou H ou' H'/\ER H' nm (allE e b l) c):=by
 have hei:=he.ids;have hci:=hl.ids;have hcl:=hl.len;refine zwk 25 Tryz.func141 fun hou=>?_;refine zA ?_;refine Qv6 hΓ (α:=Nat×AC×Q03×Hm) (fun a=>[(11,.one (int a.1)),(10,.one (int (b.map cI).length)),(9,.one (.sl 1 (b.map cI))),(2,.one (.sl 1 cs)),(0,.one a.2.1)]) (fun a=>⟨0,[],a.2.2.1⟩)
  (fun m a=>a.1<=b.length/\Gro ou H a.2.2.1 a.2.2.2/\ER a.2.2.2 nm (allE e (b.take a.1) l) a.2.1/\m=b.length - a.1) (a0:=(0,ec,ou,H)) (ρ:=_root_.id) ⟨by simp,Gro.refl hH hou,by simpa[allE]using he,rfl⟩
  (Z39 rfl zFW (by simp[Q4c hei,Q7h hci]) zLO rfl rfl hou) fun m a ha=>?_
 obtain⟨i,c,ou1,H1⟩:=a;obtain⟨hi,hg,he1,rfl⟩:=ha;dsimp only at hi hg he1 ⊢;have Qzl:=hg.ok;have hc1:=he1.ids;refine zA ?_;refine Q00.cond rfl (fun hb2=>?_) (fun hb2=>?_)
 ·have hlt:i < b.length:=by simpa using hb2
  clear hb2;obtain⟨x,hx⟩:=Q02 hlt;obtain⟨v,hv⟩:=Q02 (l:=l) (i:=i) zoy;obtain⟨y,hy,hvy⟩:=hl.get hv;have hyi:=hvy.ids;refine zA ?_;refine zS (zIA rfl rfl rfl zoy (Q0f hx)) ?_;refine zA ?_;refine zS (zIA rfl rfl rfl zoy (show cs[i]?=some [y]from hy)) ?_;refine zA ?_;refine Qv3 hΓ rfl rfl rfl rfl rfl rfl rfl ⟨hc1,trivial,hyi,trivial⟩ Qzl (Qig x y c hyi hc1 ou1) fun r ou2 hq Qz6 Qzs=>?_;obtain⟨k,rfl,hN⟩:=hq;have hg2:=Gro.add hg.inO hN;have he2:ER (addH H1 k [int x,y,c]) nm (allE e (b.take (i+1)) l) (.ptr (.o k) 0):=by
   have ht:b.take (i+1)=b.take i++[x]:=Q0u hx;rw[ht,Qi9];have hlen:(b.take i).length=i:=by simp;omega
   rw[hlen,Z42,hv];exact .bind x v _ k y c (by simp[addH]) (hvy.mo (((hg.trans hg2).mo nm))) (he1.mo (hg2.mo nm))
  refine zM ?_;exact cInv ⟨b.length - (i+1),(i+1,.ptr (.o k) 0,ou2,addH H1 k [int x,y,c]),_root_.id,by omega,⟨by omega,hg.trans hg2,he2,rfl⟩,Z39 rfl zFW (by simp[Q7h hci]) zLO rfl rfl Qzs⟩
 ·have hlt:i=b.length:=by simp at hb2;omega
  subst hlt;rw[Z5w]at he1;refine zA ?_;exact Qwm (r':=.one c) rfl (Z7i _) hc1 Qzl ⟨H1,c,rfl,hg,he1⟩
structure FcT where
 ac:AC
 kt:Nat
abbrev FcT.ids (fc:FcT)(p:Abs.Id->Prop):Prop:=fc.ac.ids p
def mC (tc ec vc kc:AC)(out:List Int)(st fu:Int)(fc:FcT):List AC:=[tc,ec,vc,kc,.gs 1 (out.map cI) (.o fc.kt),int st,int fu,fc.ac]
def ouX (mc:List AC)(n:Nat)(ou:Q03):Q03:=fun k=>match k with
 |0=>some (.cells mc)
 |k+1=>ou (k+1)
theorem Qgy{n:Nat}(h0:ou 0=some (.cells mc)):ou=ouX mc n ou:=by
 funext k
 match k with
 |0=>exact h0
 |k+1=>rfl
theorem setX(mc mc':List AC)(n:Nat)(ou:Q03):(⟨0,[],ouX mc n ou⟩:St).set (.o 0) (.cells mc')=⟨0,[],ouX mc' n ou⟩:=by
 simp only[St.set,St.mk.injEq,true_and];funext k
 match k with
 |0=>rfl
 |k+1=>simp[Q0d (show k+1≠0 by omega)];rfl
def TkR (ou:Q03)(H:Hm)(nm:Nm2):Prop:=∀cs,ou 0=some (.cells cs)->∀es i,cs[4]?=some (.gs 1 es i)->∃kt,i=.o kt/\1<=kt/\ou kt=some (.tok 3 1 es.length)/\H kt=none/\∀(a k n:Nat),nm[a]?=some (k,n)->k≠kt
structure WR (ou:Q03)(H:Hm)(nm:Nm2)(heap:List (List Vl)):Prop where
 inO:InOu H ou
 ok:OuOk ou
 len:nm.length=heap.length
 arr:∀(a k n:Nat),nm[a]?=some (k,n)->∃cs:List AC,ou k=some (.cells cs)/\VsR H nm (heap.getD a []) (cs.map fun c=>[c])/\n=cs.length
 aH:∀(a k n:Nat),nm[a]?=some (k,n)->H k=none
 aa:∀(a b k n n':Nat),nm[a]?=some (k,n)->nm[b]?=some (k,n')->a=b
 sep:H 0=none/\∀(a k n:Nat),nm[a]?=some (k,n)->1<=k
 tk:TkR ou H nm
 pl:∀k o,ou k=some o->plainO o
theorem WR.gro{H H':Hm}{nm:Nm2}{heap:List (List Vl)}(w:WR ou H nm heap)(g:Gro ou H ou' H')(h0:ou 0≠none)(h1:True):WR ou' H' nm heap:=by
 have hH:∀k,ou k≠none->H k=none->H' k=none:=fun k hk hh=>by
  cases h:H' k with
  |none=>rfl
  |some c=>exact absurd (g.new k hh (by rw[h];simp)) hk
 refine⟨g.inO,g.ok,w.len,fun a k n h=>?_,fun a k n h=>?_,w.aa,⟨hH 0 h0 w.sep.1,w.sep.2⟩,fun cs hc es i hi=>?_,fun k o hk=>(g.pl k o hk).elim (w.pl k o) id⟩
 ·obtain⟨cs,c1,c2,c3⟩:=w.arr a k n h;exact⟨cs,g.old k _ c1,c2.mo (g.mo nm),c3⟩
 ·obtain⟨cs,c1,c2,c3⟩:=w.arr a k n h;exact hH k (by rw[c1];simp) (w.aH a k n h)
 ·cases ho:ou 0 with
  |none=>exact absurd ho h0
  |some o=>
   have:=g.old 0 _ ho;rw[hc]at this;cases this;obtain⟨kt,e1,e2,e3,e4,e5⟩:=w.tk cs ho es i hi;exact⟨kt,e1,e2,g.old _ _ e3,hH kt (by rw[e3];simp) e4,e5⟩
theorem WR.put{n:Nat}{H:Hm}{nm:Nm2}{heap:List (List Vl)}(w:WR (ouX mc n ou) H nm heap)(hi:idsL isO mc')(h0:ou' 0=some (.cells mc'))(h1:mc'[4]?=mc[4]?)(h2:∀k,ou' (k+1)=ou (k+1)):WR ou' H nm heap:=by
 have e:∀k,1<=k->ou' k=ouX mc n ou k:=fun k hk=>by obtain⟨j,rfl⟩:∃j,k=j+1:=⟨k - 1,by omega⟩;rw[h2];rfl
 have hk2:∀k cs,H k=some cs->1<=k:=fun k cs hk=>by
  match k with
  |0=>rw[w.sep.1]at hk;cases hk
  |k+1=>omega
 refine⟨fun k cs hk=>?_,fun k o hk=>?_,w.len,fun a k n h=>?_,w.aH,w.aa,w.sep,fun cs hc es i hi=>?_,fun k o hk=>?_⟩
 ·rw[e k (hk2 k cs hk)];exact w.inO k cs hk
 ·match k with
  |0=>rw[h0]at hk;cases hk;exact hi
  |k+1=>rw[e _ zoy]at hk;exact w.ok _ o hk
 ·rw[e k (w.sep.2 a k n h)];exact w.arr a k n h
 ·rw[h0]at hc;cases hc;rw[h1]at hi;obtain⟨kt,e1,e2,e3,e4,e5⟩:=w.tk mc rfl es i hi;exact⟨kt,e1,e2,(e kt e2).trans e3,e4,e5⟩
 ·match k with
  |0=>rw[h0]at hk;cases hk;trivial
  |k+1=>rw[e _ zoy]at hk;exact w.pl _ o hk
inductive CR (H:Hm)(nm:Nm2):Ctl->AC->AC->AC->Prop
 |ev (t:Tr) (e:En) (ec vc:AC) (he:ER H nm e ec):CR H nm (.ev t e) (.box (cTr t)) ec vc
 |rt (v:Vl) (ec vc:AC) (hv:VR H nm v vc):CR H nm (.rt v) Q2b ec vc
structure M0 (fu:Int)(fc:FcT)(ou:Q03)(H:Hm)(nm:Nm2)(m:Ms)(tc ec vc kc:AC):Prop where
 ids:tc.ids isO/\ec.ids isO/\vc.ids isO/\kc.ids isO
 m0:ou 0=some (.cells (mC tc ec vc kc m.out m.steps fu fc))
 w:WR ou H nm m.heap
structure MR (fu:Int)(fc:FcT)(ou:Q03)(H:Hm)(nm:Nm2)(m:Ms):Prop where
 ex:∃kt tc ec vc kc,CR H nm m.c tc ec vc/\KR H nm m.k kc/\M0 fu ⟨fc.ac,kt⟩ ou H nm m tc ec vc kc
theorem MR.ok{fu:Int}{fc:FcT}{H:Hm}{nm:Nm2}{m:Ms}{ou:Q03}(h:MR fu fc ou H nm m):OuOk ou:=h.ex.choose_spec.choose_spec.choose_spec.choose_spec.choose_spec.2.2.w.ok
structure PR (ou:Q03)(m:Ms):Prop where
 ok:OuOk ou
 m0:∃tc ec vc kc fu fc,ou 0=some (.cells (mC tc ec vc kc m.out m.steps fu fc))
theorem M0.pr{fc:FcT}{H:Hm}{nm:Nm2}{m:Ms}{tc:AC}(h:M0 fu fc ou H nm m tc ec vc kc):PR ou m:=⟨h.w.ok,⟨_,_,_,_,_,_,h.m0⟩⟩
def StQ (fu:Int)(fc:FcT)(H:Hm)(nm:Nm2)(x:Except Int Ms):FV->Q03->Prop:=fun r ou'=>r=unitF/\∃H' nm' m',x=.ok m'/\Mo H nm H' nm'/\MR fu fc ou' H' nm' m'
def StP (m:Ms)(x:Except Int Ms):List PanicEntry->Q03->Prop:=fun ps ou'=>∃c,x=.error c/\ps=trapE c/\PR ou' m
theorem M0.ouX{fu:Int}{fc:FcT}{ou:Q03}{H:Hm}{nm:Nm2}{m:Ms}{tc ec vc kc:AC}(h:M0 fu fc ou H nm m tc ec vc kc):ou=ouX (mC tc ec vc kc m.out m.steps fu fc) m.out.length ou:=Qgy h.m0
theorem KR.cell{H:Hm}{nm:Nm2}{t:Tr}{e:En}{d:List Vl}{k:List Fm}(h:KR H nm (.mk t e d::k) c):∃ec dc kc,c=.box [.box (cTr t),ec,.sl 1 dc,kc]/\ER H nm e ec/\VsR H nm d dc/\KR H nm k kc:=by
 cases h with
 |cons _ _ _ _ ec dc kc he hd hk=>exact⟨ec,dc,kc,rfl,he,hd,hk⟩
theorem Qy3{fc:FcT}{n:Nat}{H:Hm}{nm:Nm2}{m:Ms}{e:En}{k:List Fm}(w:WR (ouX mc n ou0) H nm m.heap)(he:ER H nm e ec)(hk:KR H nm k kc)(hv:vc.ids isO)(hf:fc.ids isO)
  (h0:ou' 0=some (.cells (mC (.box (cTr s)) ec vc kc m.out m.steps fu fc))) (h1:mc[4]?=some (.gs 1 (m.out.map cI) (.o fc.kt))) (h2:∀k,ou' (k+1)=ou0 (k+1)):MR fu fc ou' H nm { m with c:=.ev s e,k:=k }:=
 have hi:idsL isO (mC (.box (cTr s)) ec vc kc m.out m.steps fu fc):=by simp[mC,he.ids,hk.ids,hv,hf]
 ⟨fc.kt,_,_,_,_,.ev s e ec vc he,hk,⟨by simp,he.ids,hv,hk.ids⟩,h0,w.put hi h0 h1.symm h2⟩
theorem Qy4{fc:FcT}{n:Nat}{H:Hm}{nm:Nm2}{m:Ms}{v:Vl}{k:List Fm}(w:WR (ouX mc n ou0) H nm m.heap)(he:VR H nm v vc)(hk:KR H nm k kc)(hv:ec.ids isO)(hf:fc.ids isO)
  (h0:ou' 0=some (.cells (mC Q2b ec vc kc m.out m.steps fu fc))) (h1:mc[4]?=some (.gs 1 (m.out.map cI) (.o fc.kt))) (h2:∀k,ou' (k+1)=ou0 (k+1)):MR fu fc ou' H nm { m with c:=.rt v,k:=k }:=
 have hi:idsL isO (mC Q2b ec vc kc m.out m.steps fu fc):=by simp[mC,he.ids,hk.ids,hv,hf,Q2b]
 ⟨fc.kt,_,_,_,_,.rt v ec vc he,hk,⟨trivial,hv,he.ids,hk.ids⟩,h0,w.put hi h0 h1.symm h2⟩
theorem Qt2(hΓ:GI Γ){fc:FcT}{fns:List Fun}{H:Hm}{nm:Nm2}{m:Ms}{tc0 ec0 vc0 kc0:AC}(h0:M0 fu fc ou H nm m tc0 ec0 vc0 kc0)(hfc:fc.ids isO)
  {t:Tr}{e:En}{d:List Vl}{k:List Fm}{dc:List (List AC)}(he:ER H nm e ec) (hd:VsR H nm d dc) (hk:KR H nm k kc)(hlt:d.length < opdN t) (hs:t.kids[d.length]?=some s):
  AFnP Tryz.prog Γ 111 [.one (.ptr (.o 0) 0),.one (.box [.box (cTr t),ec,.sl 1 dc,kc])] ou (StQ fu fc H nm (kidM fu fns m (.mk t e d) k)) (StP m (kidM fu fns m (.mk t e d) k)):=by
 have hoX:=h0.ouX;have hei:=he.ids;have hdi:=hd.ids;have hki:=hk.ids;have hdl:=hd.len;rw[hoX];have hw:=h0.w;rw[hoX]at hw;generalize hmc:ou=ou0 at hw;clear hoX;refine AFnP.walk 262 tabOk hΓ Z77 rfl zky rfl rfl fun hou=>?_;refine zA ?_;refine zdx 10 [(9,.one (int (opdN t)))] ?_ ?_
 ·exact⟨⟨_,rfl,Quq hΓ rfl rfl rfl (by simp[idsF]) hou (Qca t)⟩,trivial⟩
 refine zA ?_;refine Q00.cond rfl (fun hb=>?_) (fun hb=>absurd hb (by simp[hdl];exact hlt));refine zA ?_;have hsc:(Q1a t.kids)[d.length]?=some [.box (cTr s)]:=Q1x hs;generalize hM:ouX (mC tc0 ec0 vc0 kc0 m.out m.steps fu fc) m.out.length ou0=ou1 at hou hw ⊢;subst hM;refine Q00.drawC2 tabOk 28 [24,25,26,27] [(15,.one (.box [.box (cTr s)]))] (fun vs σ=>match vs with
   |[]=>σ=⟨0,[],ouX (mC tc0 ec0 vc0 kc0 m.out m.steps fu fc) m.out.length ou0⟩
   |[_]=>σ=⟨0,[],ouX (mC (.box (cTr s)) ec0 vc0 kc0 m.out m.steps fu fc) m.out.length ou0⟩
   |[_,v]=>v=.one (.ptr (.o 0) 0)/\σ=⟨0,[],ouX (mC (.box (cTr s)) ec0 vc0 kc0 m.out m.steps fu fc) m.out.length ou0⟩
   |[_,v,w]=>v=.one (.ptr (.o 0) 0)/\w=.one (.ptr (.o 0) 1)/\σ=⟨0,[],ouX (mC (.box (cTr s)) ec0 vc0 kc0 m.out m.steps fu fc) m.out.length ou0⟩
   |[_,v,w,_]=>v=.one (.ptr (.o 0) 0)/\w=.one (.ptr (.o 0) 1)/\σ=⟨0,[],ouX (mC (.box (cTr s)) ec vc0 kc0 m.out m.steps fu fc) m.out.length ou0⟩
   |_=>False) follows zky rfl rfl zdy zky zky rfl rfl ?_ ?_ zdy ?_ ?_
 ·intro vs σ h
  match vs with
  |[]=>subst h;rfl
  |[_]=>subst h;rfl
  |[_,_]=>obtain⟨_,rfl⟩:=h;rfl
  |[_,_,_]=>obtain⟨_,_,rfl⟩:=h;rfl
  |[_,_,_,_]=>obtain⟨_,_,rfl⟩:=h;rfl
  |_::_::_::_::_::_=>exact h.elim
 ·intro vs σ h;exact⟨⟨_,rfl,zIA rfl rfl rfl zoy (by simpa[hdl]using hsc)⟩,trivial⟩
 ·intro vs σ h i o hi ho
  match vs with
  |[]=>subst h;cases hi;cases ho;exact⟨rfl,.inl (.inl ⟨.bot,_,Qul tabOk rfl,setX _ _ _ _⟩)⟩
  |[_]=>subst h;cases hi;cases ho;exact⟨rfl,.inl (.inl ⟨_,_,Quk tabOk rfl,rfl,rfl⟩)⟩
  |[_,_]=>obtain⟨rfl,rfl⟩:=h;cases hi;cases ho;exact⟨rfl,.inl (.inl ⟨_,_,Quk tabOk rfl,rfl,rfl,rfl⟩)⟩
  |[_,_,_]=>obtain⟨rfl,rfl,rfl⟩:=h;cases hi;cases ho;exact⟨rfl,.inl (.inl ⟨.bot,_,Qul tabOk rfl,rfl,rfl,setX _ _ _ _⟩)⟩
  |_::_::_::_::_=>cases hi
 ·intro vs σ hl h
  match vs with
  |[_,_,_,_]=>
   obtain⟨rfl,rfl,rfl⟩:=h;refine zA ?_;have hM:MR fu fc _ H nm { m with c:=.ev s e,k:=.mk t e d::k }:=Qy3 (ou':=(St.set ⟨0,[],ouX (mC (.box (cTr s)) ec vc0 kc0 m.out m.steps fu fc) m.out.length ou0⟩ (.o 0) (.cells (mC (.box (cTr s)) ec vc0 (.box [.box (cTr t),ec,.sl 1 dc,kc]) m.out m.steps fu fc))).ou) hw he (.cons t e d k ec dc kc he hd hk) h0.ids.2.2.1 hfc rfl rfl (fun _=>rfl);refine Qwm rfl (Z7i _) zsy hM.ok ⟨rfl,H,nm,_,?_,.refl _ _,hM⟩;unfold kidM;rw[if_pos (show (Fm.mk t e d).done.length < opdN (Fm.mk t e d).t from hlt)];simp only[Qy2,Qy0,Qy1];rw[Z42,hs];rfl
  |[]|[_]|[_,_]|[_,_,_]=>cases hl
  |_::_::_::_::_::_=>exact h.elim
theorem Q00.stEq{c:Code}(h:σ=σ')(k:Q00 E c K fr σ'):Q00 E c K fr σ:=h▸k
theorem AOps.stEq{ops:Array Oper}{l:List Oper}(h:σ=σ')(k:AOps E ops l K fr σ'):AOps E ops l K fr σ:=h▸k
def GrP (mc:List AC)(n:Nat)(ou0:Q03)(H:Hm)(mc':List AC)(R:FV->Hm->Prop):FV->St->Prop:=fun v σ=>∃ou1 H1,σ=⟨0,[],ouX mc' n ou1⟩/\Gro (ouX mc n ou0) H (ouX mc n ou1) H1/\R v H1
theorem GrP.of{n:Nat}{H H1:Hm}{R:FV->Hm->Prop}{v:FV}(g:Gro (ouX mc n ou0) H ou' H1)(h:R v H1):GrP mc n ou0 H mc R v ⟨0,[],ou'⟩:=by have e:=Qgy (n:=n) (g.old 0 _ rfl);refine⟨ou',H1,by rw[←e],?_,h⟩;rw[←e];exact g
section
variable {fu:Int}{fc:FcT}{fns:List Fun}{ou:Q03}{H:Hm}{nm:Nm2}{m:Ms}{tc0 ec0 vc0 kc0:AC}{t:Tr}{e:En}{d:List Vl}{k:List Fm}{ec:AC}{dc:List (List AC)}{kc:AC}
theorem kid_let(hΓ:GI Γ)(h0:M0 fu fc ou H nm m tc0 ec0 vc0 kc0)(hfc:fc.ids isO)(he:ER H nm e ec)(hd:VsR H nm d dc)(hk:KR H nm k kc){v:Vl}(hdv:d=[v]){id:Int}(h4:t.op=4)(hs:t.kids[1]?=some s)(hbn:t.binds=[id]):
  AFnP Tryz.prog Γ 111 [.one (.ptr (.o 0) 0),.one (.box [.box (cTr t),ec,.sl 1 dc,kc])] ou (StQ fu fc H nm (kidM fu fns m (.mk t e d) k)) (StP m (kidM fu fns m (.mk t e d) k)):=by
 have hoX:=h0.ouX;have hei:=he.ids;have hdi:=hd.ids;have hki:=hk.ids;have hdl:=hd.len;have hop:opdN t=1:=by unfold opdN;rw[if_pos (.inl h4)]
 subst hdv;obtain⟨y,hy,hvy⟩:=hd.get (i:=0) rfl;rw[hoX];have hw:=h0.w;rw[hoX]at hw;generalize hmc:ou=ou0 at hw;clear hoX;refine AFnP.walk 262 tabOk hΓ Z77 rfl zky rfl rfl fun hou=>?_;refine zA ?_;refine zdx 10 [(9,.one (int (opdN t)))] ?_ ?_
 ·exact⟨⟨_,rfl,Quq hΓ rfl rfl rfl (by simp[idsF]) hou (Qca t)⟩,trivial⟩
 refine zA ?_;refine Q00.cond rfl (fun hb=>absurd hb (by simp[hdl,hop])) (fun hb=>?_);refine zA ?_;refine Q00.stEq (σ':=⟨0,[],ouX (mC tc0 ec0 vc0 kc m.out m.steps fu fc) m.out.length ou0⟩) (setX _ _ _ _) ?_;have hw1:WR (ouX (mC tc0 ec0 vc0 kc m.out m.steps fu fc) m.out.length ou0) H nm m.heap:=hw.put (by simp[mC,h0.ids.1,h0.ids.2.1,h0.ids.2.2.1,hki,hfc]) rfl rfl (fun _=>rfl);have hyi:=hvy.ids;have hsc:(Q1a t.kids)[1]?=some [.box (cTr s)]:=Q1x hs;have hbc:(t.binds.map cI)[0]?=some [int id]:=by rw[hbn];rfl
 refine Q00.cond rfl (fun _=>?_) (fun hb=>absurd hb (by simp[h4]));refine Q00.drawCS tabOk 34 30 31 32 33 (.one (.ptr (.o 0) 0)) (.one (.ptr (.o 0) 0)) [(9,.one (.box [.box (cTr s)])),(22,.one (.box [int id])),(28,.one (.box [y]))]
  (GrP (mC tc0 ec0 vc0 kc m.out m.steps fu fc) m.out.length ou0 H (mC tc0 ec0 vc0 kc m.out m.steps fu fc) fun v H1=>∃q,v=.one (.ptr (.o q) 0)/\H1 q=some [int id,y,ec])
  (GrP (mC tc0 ec0 vc0 kc m.out m.steps fu fc) m.out.length ou0 H (mC (.box (cTr s)) ec0 vc0 kc m.out m.steps fu fc) fun v H1=>∃q,v=.one (.ptr (.o q) 0)/\H1 q=some [int id,y,ec])
  follows zky rfl rfl zdy zky zky rfl rfl rfl rfl rfl rfl rfl ?_ ?_ ?_ ?_ ?_ ?_ ?_ ?_ ?_ ?_
 ·rintro v σ ⟨ou1,H1,rfl,_,_⟩;rfl
 ·rintro v σ ⟨ou1,H1,rfl,_,_⟩;rfl
 ·exact⟨⟨_,rfl,zIA rfl rfl rfl zdy hsc⟩,⟨_,rfl,zIA rfl rfl rfl zdy hbc⟩,⟨_,rfl,zIA rfl rfl rfl zdy hy⟩,trivial⟩
 ·rintro v σ ⟨ou1,H1,rfl,_,_⟩;exact⟨⟨_,rfl,zIA rfl rfl rfl zdy hsc⟩,⟨_,rfl,zIA rfl rfl rfl zdy hbc⟩,⟨_,rfl,zIA rfl rfl rfl zdy hy⟩,trivial⟩
 ·rintro v σ ⟨ou1,H1,rfl,_,_⟩;exact⟨⟨_,rfl,zIA rfl rfl rfl zdy hsc⟩,⟨_,rfl,zIA rfl rfl rfl zdy hbc⟩,⟨_,rfl,zIA rfl rfl rfl zdy hy⟩,trivial⟩
 ·refine Qxe (Q27.call hΓ rfl rfl rfl rfl ⟨hei,trivial,hyi,trivial⟩ hw1.ok (Qig id y ec hyi hei _) fun r ou' hq hr ho=>?_);obtain⟨q,rfl,hN⟩:=hq;exact GrP.of (Gro.add hw1.inO hN) ⟨q,rfl,by simp[addH]⟩
 ·rintro v σ ⟨ou1,H1,rfl,_,q,rfl,_⟩;exact Quk tabOk rfl
 ·rintro v σ ⟨ou1,H1,rfl,_,q,rfl,_⟩;exact Quk tabOk rfl
 ·rintro v σ ⟨ou1,H1,rfl,h1,h2⟩;exact⟨_,⟨ou1,H1,setX _ _ _ _,h1,h2⟩,Qul tabOk rfl⟩
 ·rintro v' σ ⟨ou1,H1,rfl,h1,q,rfl,h3⟩;refine zA ?_;have hw2:=hw1.gro h1 (by simp[ouX]) (by simp[ouX]);have hM:MR fu fc _ H1 nm { m with c:=.ev s (.bind id v e),k:=k }:=Qy3 (ou':=(St.set ⟨0,[],ouX (mC (.box (cTr s)) ec0 vc0 kc m.out m.steps fu fc) m.out.length ou1⟩ (.o 0) (.cells (mC (.box (cTr s)) (.ptr (.o q) 0) vc0 kc m.out m.steps fu fc))).ou) hw2 (.bind id v e q y ec h3 (hvy.mo (h1.mo nm)) (he.mo (h1.mo nm))) (hk.mo (h1.mo nm)) h0.ids.2.2.1 hfc rfl rfl (fun _=>rfl);refine Qwm rfl (Z7i _) zsy hM.ok ⟨rfl,H1,nm,_,?_,h1.mo nm,hM⟩;unfold kidM;rw[if_neg (show ¬(Fm.mk t e [v]).done.length < opdN (Fm.mk t e [v]).t by simp[hop]),if_pos (show (Fm.mk t e [v]).t.op=4 from h4)];simp only[Qy2,Qy0,Qy1,hbn];rw[Z42,hs];rfl
end
theorem setXs(N:Nat)(lo:List (Nat×AObj))(mc mc':List AC)(n:Nat)(ou:Q03):(⟨N,lo,ouX mc n ou⟩:St).set (.o 0) (.cells mc')=⟨N,lo,ouX mc' n ou⟩:=by have:=setX mc mc' n ou;simp only[St.set,St.mk.injEq,true_and]at this ⊢;exact this
def GrS (mc:List AC)(n:Nat)(ou0:Q03)(H:Hm)(mc':List AC)(L:Nat×List (Nat×AObj))(R:FV->Hm->Prop):FV->St->Prop:=fun v σ=>∃ou1 H1,σ=⟨L.1,L.2,ouX mc' n ou1⟩/\Gro (ouX mc n ou0) H (ouX mc n ou1) H1/\R v H1
theorem GrS.of{n:Nat}{H H1:Hm}{L:Nat×List (Nat×AObj)}{R:FV->Hm->Prop}{v:FV}(g:Gro (ouX mc n ou0) H ou' H1)(h:R v H1):GrS mc n ou0 H mc L R v ⟨L.1,L.2,ou'⟩:=by have e:=Qgy (n:=n) (g.old 0 _ rfl);refine⟨ou',H1,by rw[←e],?_,h⟩;rw[←e];exact g
section
variable {fu:Int}{fc:FcT}{fns:List Fun}{ou:Q03}{H:Hm}{nm:Nm2}{m:Ms}{tc0 ec0 vc0 kc:AC}{t:Tr}{e:En}{d:List Vl}{k:List Fm}{ec:AC}{dc:List (List AC)}
theorem Qhy{tag:Int}{fs:List Vl}{e:En}{kids:List Tr}{a:Alt}{al:List Alt}(h:al.drop i=a::al.drop (i+1))(h1:a.tag≠tag)(h2:a.tag≠-1):Q2m tag fs e kids i (al.drop i)=Q2m tag fs e kids (i+1) (al.drop (i+1)):=by rw[h,Q2m,if_neg h1,if_neg h2]
theorem Qnc{v:Vl}(h:∀g fs,v≠.obj g fs):Q4e m t e v=.error 5:=by cases v <;> first|rfl|exact absurd rfl (h _ _)
theorem Qqy(hΓ:GI Γ)(h0:M0 fu fc ou H nm m tc0 ec0 vc0 kc)(hfc:fc.ids isO)(he:ER H nm e ec)(hd:VsR H nm d dc)(hk:KR H nm k kc){v:Vl}(hdv:d[0]?=some v)(hkl:t.kids.length=1+t.alts.length)(hal:t.alts.length<=1048576)(hbl:∀a∈t.alts,a.binds.length<=1048576)(nx:AC)(hnx:nx.ids isO):
  AFnP Tryz.prog Γ 138 [.one (.ptr (.o 0) 0),.one (.box [.box (cTr t),ec,.sl 1 dc,nx])] ou (StQ fu fc H nm (Q4e { m with k:=k } t e v)) (StP m (Q4e { m with k:=k } t e v)):=by
 have hoX:=h0.ouX;have hei:=he.ids;have hdi:=hd.ids;have hki:=hk.ids;have hpr:=h0.pr;obtain⟨y,hy,hvy⟩:=hd.get hdv;have hyi:=hvy.ids;rw[hoX]at hpr ⊢;have hw:=h0.w;rw[hoX]at hw;generalize hmc:ou=ou0 at hw hpr;clear hoX;refine AFnP.walk 120 tabOk hΓ Tryz.func138 rfl zky rfl rfl fun hou=>?_;refine zA ?_;refine zS (zIA rfl rfl rfl zdy hy) ?_;refine zA ?_;rcases hvy.isObj with ⟨g,fs,cs,rfl,rfl,hfs⟩|⟨ho,hno⟩
 ·refine zS (Qx9 Q6y rfl rfl) ?_;have hci:=hfs.ids;have hcl:=hfs.len;have hfcell:(FV.one (.box [.box (cTr t),ec,.sl 1 dc,nx])).ids isO:=⟨by simp,hei,hdi,hnx,trivial⟩;have hocell:(FV.one (.box [int g,.sl 1 cs])).ids isO:=⟨trivial,hci,trivial⟩;refine zA ?_;refine Qv6 hΓ (α:=Nat) (fun i=>[(30,.one (int i)),(29,.one (int (t.alts.map cAlt).length)),(28,.one (.sl 2 (t.alts.map cAlt))),(4,.one (.box [int g,.sl 1 cs])),(1,.one (.box [.box (cTr t),ec,.sl 1 dc,nx])),(0,.one (.ptr (.o 0) 0))])
   (fun i=>⟨0,[],ouX (mC tc0 ec0 vc0 kc m.out m.steps fu fc) m.out.length ou0⟩) (fun n i=>i<=t.alts.length/\Q2m g fs e t.kids i (t.alts.drop i)=Q2m g fs e t.kids 0 t.alts/\n=t.alts.length - i) (a0:=0) (ρ:=_root_.id) ⟨by simp,by simp,rfl⟩
   (Z39 rfl zFW (by simp[Q4c hei,Q7h hdi,Q4c hnx,Q7h hci]) zLO rfl rfl hou) fun n i hi=>?_
  obtain⟨hil,hch,rfl⟩:=hi;refine zA ?_;refine Q00.cond rfl (fun hb2=>?_) (fun hb2=>?_)
  ·have hlt:i < t.alts.length:=by simpa using hb2
   clear hb2;obtain⟨a,ha⟩:=Q02 hlt;have hdr:t.alts.drop i=a::t.alts.drop (i+1):=by rw[Z3k hlt];congr 1;exact Z6y ((Z47 hlt).symm.trans ha)
   refine zA ?_;refine zS (zIA rfl rfl rfl zoy (Q0f ha)) ?_;refine zA ?_;have hk1:1+i < t.kids.length:=by omega
   obtain⟨s,hs⟩:=Q02 hk1;have hsc:(Q1a t.kids)[1+i]?=some [.box (cTr s)]:=Q1x hs;have hgd:t.kids.getD (1+i) default=s:=by rw[Z42,hs];rfl
   have hadd:Q60 .i64 ((1:Int)+(i:Int)):=Q3b zoy zoy;have hix:(Q1a t.kids)[((1:Int)+(i:Int)).toNat]?=some [.box (cTr s)]:=by rw[show ((1:Int)+(i:Int)).toNat=1+i by omega];exact hsc
   by_cases Z0i:a.tag=g
   ·refine zdx 18 [(6,.one (.lit (.bool true)))] ?_ ?_
    ·exact .step rfl (Qvu tabOk rfl (by simp[Z0i])) .nil
    refine zA ?_;refine Q00.cond rfl (fun hb3=>?_) (fun hb3=>?_)
    ·refine zA ?_;refine zS (Qx8 Q9d rfl rfl) ?_;refine Qxd rfl rfl rfl fun w C v hv=>⟨hou,5,?_,Q8i hv,hpr⟩;unfold Q4e;simp only[←hch];rw[hdr,Q2m,if_pos Z0i,if_neg (by simp[hcl]at hb3;omega)];rfl
    ·have hlen:a.binds.length=fs.length:=by simp[hcl]at hb3;omega
     refine zA ?_;refine zdx 7 [(6,.one (.lit (.bool true)))] ?_ ?_
     ·exact .step rfl (Qvu tabOk rfl (by simp[Z0i])) .nil
     refine zA ?_;refine Q00.drawCS tabOk 27 23 24 25 26 (.one (.ptr (.o 0) 0)) (.one (.ptr (.o 0) 0)) [(10,.one (int ((1:Int)+(i:Int)))),(11,.one (.box [.box (cTr s)]))]
      (GrS (mC tc0 ec0 vc0 kc m.out m.steps fu fc) m.out.length ou0 H (mC tc0 ec0 vc0 kc m.out m.steps fu fc) (1,[(0,.cells (cAlt a)),(0,.cells [int 0,.lit (.slice none 0 0)])]) fun v H1=>∃c,v=.one c/\ER H1 nm (allE e a.binds fs) c)
      (GrS (mC tc0 ec0 vc0 kc m.out m.steps fu fc) m.out.length ou0 H (mC (.box (cTr s)) ec0 vc0 kc m.out m.steps fu fc) (1,[(0,.cells (cAlt a)),(0,.cells [int 0,.lit (.slice none 0 0)])]) fun v H1=>∃c,v=.one c/\ER H1 nm (allE e a.binds fs) c)
      follows zky rfl rfl zdy zky zky rfl rfl rfl rfl rfl rfl rfl ?_ ?_ ?_ ?_ ?_ ?_ ?_ ?_ ?_ ?_
     ·rintro v σ ⟨ou1,H1,rfl,_,_⟩;rfl
     ·rintro v σ ⟨ou1,H1,rfl,_,_⟩;rfl
     ·exact⟨⟨_,rfl,Qus rfl rfl rfl (.inl ⟨rfl,rfl⟩) hadd⟩,⟨_,rfl,zIA rfl rfl rfl zoy hix⟩,trivial⟩
     ·rintro v σ ⟨ou1,H1,rfl,_,_⟩;exact⟨⟨_,rfl,Qus rfl rfl rfl (.inl ⟨rfl,rfl⟩) hadd⟩,⟨_,rfl,zIA rfl rfl rfl zoy hix⟩,trivial⟩
     ·rintro v σ ⟨ou1,H1,rfl,_,_⟩;exact⟨⟨_,rfl,Qus rfl rfl rfl (.inl ⟨rfl,rfl⟩) hadd⟩,⟨_,rfl,zIA rfl rfl rfl zoy hix⟩,trivial⟩
     ·refine Qxe (Q27.call hΓ rfl rfl rfl rfl ⟨hei,by simp,hci,trivial⟩ hw.ok (Qr6 hΓ he hfs hlen (hbl a (Z5c ha)) _ hw.inO) fun r ou' hq hr ho=>?_);obtain⟨H1,c,rfl,hg,hec⟩:=hq;exact GrS.of hg ⟨c,rfl,hec⟩
     ·rintro v σ ⟨ou1,H1,rfl,_,_,rfl,_⟩;exact Quk tabOk rfl
     ·rintro v σ ⟨ou1,H1,rfl,_,_,rfl,_⟩;exact Quk tabOk rfl
     ·rintro v σ ⟨ou1,H1,rfl,h1,h2⟩;exact⟨_,⟨ou1,H1,setXs _ _ _ _ _ _,h1,h2⟩,Qul tabOk rfl⟩
     ·rintro v' σ ⟨ou1,H1,rfl,h1,c,rfl,h3⟩;refine zA ?_;have hw2:=hw.gro h1 (by simp[ouX]) (by simp[ouX]);have hM:MR fu fc _ H1 nm { m with c:=.ev s (allE e a.binds fs),k:=k }:=Qy3 (ou':=(St.set ⟨0,[],ouX (mC (.box (cTr s)) ec0 vc0 kc m.out m.steps fu fc) m.out.length ou1⟩ (.o 0) (.cells (mC (.box (cTr s)) c vc0 kc m.out m.steps fu fc))).ou) hw2 h3 (hk.mo (h1.mo nm)) h0.ids.2.2.1 hfc rfl rfl (fun _=>rfl);refine Qwm rfl (Z7i _) zsy hM.ok ⟨rfl,H1,nm,_,?_,h1.mo nm,hM⟩;unfold Q4e;simp only[←hch];rw[hdr,Q2m,if_pos Z0i,if_pos hlen,hgd];rfl
   ·refine zdx 18 [(6,.one (.lit (.bool false)))] ?_ ?_
    ·exact .step rfl (Qvu tabOk rfl (by simp[Z0i])) .nil
    refine zA ?_;refine zdx 7 [(6,.one (.lit (.bool false)))] ?_ ?_
    ·exact .step rfl (Qvu tabOk rfl (by simp[Z0i])) .nil
    refine zA ?_;refine Q00.cond rfl (fun hb3=>?_) (fun hb3=>?_)
    ·have h1:a.tag=-1:=by simpa using hb3
     refine zA ?_;refine Q00.drawSt tabOk 20 19 [(10,.one (int ((1:Int)+(i:Int)))),(11,.one (.box [.box (cTr s)]))] _ follows zky rfl rfl zky rfl ?_ rfl rfl rfl rfl ?_ ?_ (Qul tabOk rfl) ?_
     ·rfl
     ·exact⟨⟨_,rfl,Qus rfl rfl rfl (.inl ⟨rfl,rfl⟩) hadd⟩,⟨_,rfl,zIA rfl rfl rfl zoy hix⟩,trivial⟩
     ·exact⟨⟨_,rfl,Qus rfl rfl rfl (.inl ⟨rfl,rfl⟩) hadd⟩,⟨_,rfl,zIA rfl rfl rfl zoy hix⟩,trivial⟩
     refine zA ?_;have hM:MR fu fc _ H nm { m with c:=.ev s e,k:=k }:=Qy3 (ou':=(St.set (St.set ⟨0,[],ouX (mC tc0 ec0 vc0 kc m.out m.steps fu fc) m.out.length ou0⟩ (.o 0) (.cells (mC (.box (cTr s)) ec0 vc0 kc m.out m.steps fu fc))) (.o 0) (.cells (mC (.box (cTr s)) ec vc0 kc m.out m.steps fu fc))).ou) hw he hk h0.ids.2.2.1 hfc rfl rfl (fun _=>rfl);refine Qwm rfl (Z7i _) zsy hM.ok ⟨rfl,H,nm,_,?_,.refl _ _,hM⟩;unfold Q4e;simp only[←hch];rw[hdr,Q2m,if_neg Z0i,if_pos h1,hgd];rfl
    ·have h1:a.tag≠-1:=by simpa using hb3
     refine zM ?_;exact cInv ⟨t.alts.length - (i+1),i+1,fun k=>k,by omega,⟨by omega,by rw[←Qhy hdr Z0i h1];exact hch,rfl⟩,Z39 rfl zFW (by simp[Q4c hei,Q7h hdi,Q4c hnx,Q7h hci]) zLO rfl rfl hou⟩
  ·have hlt:i=t.alts.length:=by simp at hb2;omega
   subst hlt;refine zA ?_;refine zS (Qx8 Q9d rfl rfl) ?_;refine Qxd rfl rfl rfl fun w C v hv=>⟨hou,3,?_,Q8i hv,hpr⟩;rw[List.drop_length]at hch;unfold Q4e;simp only[←hch,Q2m];rfl
 ·refine zS (Qxa Q6y rfl zObj rfl rfl hno) ?_;refine zA ?_;refine zS (Qx8 Q9d rfl rfl) ?_;refine Qxd rfl rfl rfl fun w C v hv=>⟨hou,5,?_,Q8i hv,hpr⟩;exact Qnc ho
end
section
variable {fu:Int}{fc:FcT}{fns:List Fun}{ou:Q03}{H:Hm}{nm:Nm2}{m:Ms}{tc0 ec0 vc0 kc:AC}{k:List Fm}
theorem ouX_2{n:Nat}{ou:Q03}(h:1<=q):ouX mc n ou q=ouX mc' n' ou q:=by obtain⟨j,rfl⟩:∃j,q=j+1:=⟨q - 1,by omega⟩;rfl
theorem WR.ge2{ou:Q03}{H:Hm}{nm:Nm2}{heap:List (List Vl)}(w:WR ou H nm heap){cs:List AC}(h:H q=some cs):1<=q:=by
 match q with
 |0=>rw[w.sep.1]at h;cases h
 |q+1=>omega
def Qer (fu:Int)(fc:FcT)(fns:List Fun)(ou:Q03)(H:Hm)(nm:Nm2)(m:Ms)(k:List Fm)(v:Vl)(vc:AC)(l:List Vl)(cs:List (List AC))(Γ:List (Nat×List AC)):Prop:=
 AFnP Tryz.prog Γ 139 [.one (.ptr (.o 0) 0),.one vc,.one (.sl 1 cs)] ou (StQ fu fc H nm (Qd4 fns { m with k:=k } v l)) (StP m (Qd4 fns { m with k:=k } v l))
theorem Qtp(hΓ:GI Γ)(h0:M0 fu fc ou H nm m tc0 ec0 vc0 kc)(hfc:fc.ids isO)(hk:KR H nm k kc){t:Tr}{e:En}{l:List Vl}(he:ER H nm e c)(hl:VsR H nm l cs)(hs:t.kids[0]?=some s)(Z0t:t.binds.length<=1048576):
  Qer fu fc fns ou H nm m k (.clo t e) (iB tClo [.box (cTr t),c]) l cs Γ:=by
 unfold Qer;have hoX:=h0.ouX;have hei:=he.ids;have hli:=hl.ids;have hki:=hk.ids;have hll:=hl.len;have hpr:=h0.pr;rw[hoX]at hpr ⊢;have hw:=h0.w;rw[hoX]at hw;generalize hmc:ou=ou0 at hw hpr;clear hoX;have hsc:(Q1a t.kids)[0]?=some [.box (cTr s)]:=Q1x hs;refine AFnP.walk 137 tabOk hΓ Tryz.func139 rfl zky rfl rfl fun hou=>?_;refine zA ?_;refine zS (Qx9 Qd0 rfl rfl) ?_;refine zA ?_;refine Q00.cond rfl (fun hb=>?_) (fun hb=>?_)
 ·have hlen:t.binds.length=l.length:=by simp[hll]at hb;omega
  refine zA ?_;refine Q00.drawCS tabOk 27 23 24 25 26 (.one (.ptr (.o 0) 0)) (.one (.ptr (.o 0) 0)) [(9,.one (.box [.box (cTr s)]))]
   (GrS (mC tc0 ec0 vc0 kc m.out m.steps fu fc) m.out.length ou0 H (mC tc0 ec0 vc0 kc m.out m.steps fu fc) (1,[(0,.cells [.ptr (.o 0) 0])]) fun v H1=>∃c,v=.one c/\ER H1 nm (allE e t.binds l) c)
   (GrS (mC tc0 ec0 vc0 kc m.out m.steps fu fc) m.out.length ou0 H (mC (.box (cTr s)) ec0 vc0 kc m.out m.steps fu fc) (1,[(0,.cells [.ptr (.o 0) 0])]) fun v H1=>∃c,v=.one c/\ER H1 nm (allE e t.binds l) c)
   follows zky rfl rfl zdy zky zky rfl rfl rfl rfl rfl rfl rfl ?_ ?_ ?_ ?_ ?_ ?_ ?_ ?_ ?_ ?_
  ·rintro v σ ⟨ou1,H1,rfl,_,_⟩;rfl
  ·rintro v σ ⟨ou1,H1,rfl,_,_⟩;rfl
  ·exact⟨⟨_,rfl,zIA rfl rfl rfl zdy hsc⟩,trivial⟩
  ·rintro v σ ⟨ou1,H1,rfl,hg,_⟩
   skip
   exact⟨⟨_,rfl,zIA rfl rfl rfl zdy hsc⟩,trivial⟩
  ·rintro v σ ⟨ou1,H1,rfl,hg,_⟩
   skip
   exact⟨⟨_,rfl,zIA rfl rfl rfl zdy hsc⟩,trivial⟩
  ·refine Qxe (Q27.call hΓ rfl rfl rfl rfl ⟨hei,by simp,hli,trivial⟩ hw.ok (Qr6 hΓ he hl hlen Z0t _ hw.inO) fun r ou' hq hr ho=>?_);obtain⟨H1,c1,rfl,hg,hec⟩:=hq;exact GrS.of hg ⟨c1,rfl,hec⟩
  ·rintro v σ ⟨ou1,H1,rfl,_,_,rfl,_⟩;exact Quk tabOk rfl
  ·rintro v σ ⟨ou1,H1,rfl,_,_,rfl,_⟩;exact Quk tabOk rfl
  ·rintro v σ ⟨ou1,H1,rfl,h1,h2⟩;exact⟨_,⟨ou1,H1,setXs _ _ _ _ _ _,h1,h2⟩,Qul tabOk rfl⟩
  ·rintro v' σ ⟨ou1,H1,rfl,h1,c1,rfl,h3⟩;refine zA ?_;have hw2:=hw.gro h1 (by simp[ouX]) (by simp[ouX]);have hM:MR fu fc _ H1 nm { m with c:=.ev s (allE e t.binds l),k:=k }:=Qy3 (ou':=(St.set ⟨0,[],ouX (mC (.box (cTr s)) ec0 vc0 kc m.out m.steps fu fc) m.out.length ou1⟩ (.o 0) (.cells (mC (.box (cTr s)) c1 vc0 kc m.out m.steps fu fc))).ou) hw2 h3 (hk.mo (h1.mo nm)) h0.ids.2.2.1 hfc rfl rfl (fun _=>rfl);refine Qwm rfl (Z7i _) zsy hM.ok ⟨rfl,H1,nm,_,?_,h1.mo nm,hM⟩;simp only[Qd4];rw[if_pos hlen,Z42,hs];rfl
 ·have hlen:¬t.binds.length=l.length:=by simp[hll]at hb;omega
  refine zA ?_;refine zS (Qx8 Q9d rfl rfl) ?_;refine Qxd rfl rfl rfl fun w C v hv=>⟨hou,5,?_,Q8i hv,hpr⟩;simp only[Qd4];rw[if_neg hlen]
theorem Qr0(hΓ:GI Γ)(h0:M0 fu fc ou H nm m tc0 ec0 vc0 kc)(hfc:fc.ids isO)(hk:KR H nm k kc){t:Tr}{e:En}{l:List Vl}(hq:H q=some [.box (cTr t),c])(he:ER H nm e c)(hl:VsR H nm l cs)(hs:t.kids[0]?=some s)(Z0t:t.binds.length<=1048576):
  Qer fu fc fns ou H nm m k (.clo t e) (.ifc tClo false [.ptr (.o q) 0]) l cs Γ:=by
 unfold Qer;have hoX:=h0.ouX;have hei:=he.ids;have hli:=hl.ids;have hki:=hk.ids;have hll:=hl.len;have hpr:=h0.pr;rw[hoX]at hpr ⊢;have hw:=h0.w;rw[hoX]at hw;generalize hmc:ou=ou0 at hw hpr;clear hoX;have hsc:(Q1a t.kids)[0]?=some [.box (cTr s)]:=Q1x hs;have hx:=hw.inO q _ hq;refine AFnP.walk 137 tabOk hΓ Tryz.func139 rfl zky rfl rfl fun hou=>?_;refine zA ?_;refine zS (Qx9 Qd0 rfl rfl) ?_;repeat' first|refine zN ?_|((with_reducible refine oj ?_);first|refine zix ?_|refine zow rfl rfl hx ?_)
 refine Q00.cond rfl (fun hb=>?_) (fun hb=>?_)
 ·have hlen:t.binds.length=l.length:=by simp[hll]at hb;omega
  refine zA ?_;refine Q00.drawCS tabOk 27 23 24 25 26 (.one (.ptr (.o 0) 0)) (.one (.ptr (.o 0) 0)) [(5,.one (.box (cTr t))),(14,.one c),(18,.one (.box (cTr t))),(9,.one (.box [.box (cTr s)]))]
   (GrS (mC tc0 ec0 vc0 kc m.out m.steps fu fc) m.out.length ou0 H (mC tc0 ec0 vc0 kc m.out m.steps fu fc) (1,[(0,.cells [.ptr (.o 0) 0])]) fun v H1=>∃c,v=.one c/\ER H1 nm (allE e t.binds l) c)
   (GrS (mC tc0 ec0 vc0 kc m.out m.steps fu fc) m.out.length ou0 H (mC (.box (cTr s)) ec0 vc0 kc m.out m.steps fu fc) (1,[(0,.cells [.ptr (.o 0) 0])]) fun v H1=>∃c,v=.one c/\ER H1 nm (allE e t.binds l) c)
   follows zky rfl rfl zdy zky zky rfl rfl rfl rfl rfl rfl rfl ?_ ?_ ?_ ?_ ?_ ?_ ?_ ?_ ?_ ?_
  ·rintro v σ ⟨ou1,H1,rfl,_,_⟩;rfl
  ·rintro v σ ⟨ou1,H1,rfl,_,_⟩;rfl
  ·exact⟨⟨_,rfl,zLD rfl rfl hx rfl⟩,⟨_,rfl,zLD rfl rfl hx rfl⟩,⟨_,rfl,zLD rfl rfl hx rfl⟩,⟨_,rfl,zIA rfl rfl rfl zdy hsc⟩,trivial⟩
  ·rintro v σ ⟨ou1,H1,rfl,hg,_⟩;have hx1:=hg.old _ _ hx;exact⟨⟨_,rfl,zLD rfl rfl hx1 rfl⟩,⟨_,rfl,zLD rfl rfl hx1 rfl⟩,⟨_,rfl,zLD rfl rfl hx1 rfl⟩,⟨_,rfl,zIA rfl rfl rfl zdy hsc⟩,trivial⟩
  ·rintro v σ ⟨ou1,H1,rfl,hg,_⟩;have hx1:ouX (mC (.box (cTr s)) ec0 vc0 kc m.out m.steps fu fc) m.out.length ou1 q=some (.cells [.box (cTr t),c]):=(ouX_2 (hw.ge2 hq)).trans (hg.old _ _ hx);exact⟨⟨_,rfl,zLD rfl rfl hx1 rfl⟩,⟨_,rfl,zLD rfl rfl hx1 rfl⟩,⟨_,rfl,zLD rfl rfl hx1 rfl⟩,⟨_,rfl,zIA rfl rfl rfl zdy hsc⟩,trivial⟩
  ·refine Qxe (Q27.call hΓ rfl rfl rfl rfl ⟨hei,by simp,hli,trivial⟩ hw.ok (Qr6 hΓ he hl hlen Z0t _ hw.inO) fun r ou' hq hr ho=>?_);obtain⟨H1,c1,rfl,hg,hec⟩:=hq;exact GrS.of hg ⟨c1,rfl,hec⟩
  ·rintro v σ ⟨ou1,H1,rfl,_,_,rfl,_⟩;exact Quk tabOk rfl
  ·rintro v σ ⟨ou1,H1,rfl,_,_,rfl,_⟩;exact Quk tabOk rfl
  ·rintro v σ ⟨ou1,H1,rfl,h1,h2⟩;exact⟨_,⟨ou1,H1,setXs _ _ _ _ _ _,h1,h2⟩,Qul tabOk rfl⟩
  ·rintro v' σ ⟨ou1,H1,rfl,h1,c1,rfl,h3⟩;refine zA ?_;have hw2:=hw.gro h1 (by simp[ouX]) (by simp[ouX]);have hM:MR fu fc _ H1 nm { m with c:=.ev s (allE e t.binds l),k:=k }:=Qy3 (ou':=(St.set ⟨0,[],ouX (mC (.box (cTr s)) ec0 vc0 kc m.out m.steps fu fc) m.out.length ou1⟩ (.o 0) (.cells (mC (.box (cTr s)) c1 vc0 kc m.out m.steps fu fc))).ou) hw2 h3 (hk.mo (h1.mo nm)) h0.ids.2.2.1 hfc rfl rfl (fun _=>rfl);refine Qwm rfl (Z7i _) zsy hM.ok ⟨rfl,H1,nm,_,?_,h1.mo nm,hM⟩;simp only[Qd4];rw[if_pos hlen,Z42,hs];rfl
 ·have hlen:¬t.binds.length=l.length:=by simp[hll]at hb;omega
  refine zA ?_;refine zS (Qx8 Q9d rfl rfl) ?_;refine Qxd rfl rfl rfl fun w C v hv=>⟨hou,5,?_,Q8i hv,hpr⟩;simp only[Qd4];rw[if_neg hlen]
end
theorem Qy5{P:Program}{Q:FV->Q03->Prop}{QP:List PanicEntry->Q03->Prop}(h:AFnP P Γ g args ou Q QP)(hn:∀ps ou',¬QP ps ou'):AFn P Γ g args ou Q:=
 ⟨h.1,fun F w C cargs h0 hi hr=>(h.2 F w C cargs h0 hi hr).mono fun e w' hh=>hh.elim id fun ⟨ps,ou',C',_,_,_,_,hq⟩=>(hn _ _ hq).elim⟩
theorem Qy6{fc:FcT}{H:Hm}{nm:Nm2}{m:Ms}{x:Except Int Ms}{m':Ms}(h:AFnP Tryz.prog Γ g args ou (StQ fu fc H nm x) (StP m x))(hx:x=.ok m'):AFn Tryz.prog Γ g args ou (StQ fu fc H nm x):=
 Qy5 h fun ps ou' ⟨c,hc,_⟩=>by rw[hx]at hc;cases hc
def inW (n:Int):Prop:=-1073741824<=n/\n<=1073741823
section
variable {H:Hm}{nm:Nm2}
theorem VsR.nilE(h:VsR H nm [] cs):cs=[]:=by cases h;rfl
theorem VsR.consE{v:Vl}{l:List Vl}(h:VsR H nm (v::l) cs):∃c ds,cs=[c]::ds/\VR H nm v c/\VsR H nm l ds:=by
 cases h with
 |cons _ c _ ds hv hl=>exact⟨c,ds,rfl,hv,hl⟩
theorem VR.wordE{n:Int}(h:VR H nm (.word n) c):c=iW n:=by cases h;rfl
theorem Qs6(hΓ:GI Γ){m m':Ms}{n x y:Int}{v:Vl}(hn:n=0∨n=1∨n=2∨n=5∨n=6)(hx:inW x)(hy:inW y)(hv:Q84 fu m n [.word x,.word y]=.ok (m',v))(ou:Q03):
  m'=m/\∃c,VR H nm v c/\AFn Tryz.prog Γ 173 [.one (.ptr (.o 0) 0),.one (int n),.one (.sl 1 [[iW x],[iW y]])] ou (fun r ou'=>r=.one c/\ou'=ou):=by
 obtain⟨hx0,hx1⟩:=hx;obtain⟨hy0,hy1⟩:=hy;have hm1:-2305843009213693952<=x * y/\x * y<=2305843009213693952:=by
  have h1:(x * y).natAbs<=1073741824 * 1073741824:=by rw[Int.natAbs_mul];exact Nat.mul_le_mul zoy zoy
  omega
 have w1:=Q5t;rcases hn with rfl|rfl|rfl|rfl|rfl
 ·cases hv;refine⟨rfl,iW (Q5t (x+y)),.word _,?_⟩;refine zwk 152 Z7a fun hou=>?_;refine zA ?_;refine zdx 11 [(1,.one (.box [iW x])),(3,.one (int x)),(5,.one (.box [iW y])),(7,.one (int y)),(8,.one (int (x+y))),(9,.one (int (Q5t (x+y)))),(10,.one (iW (Q5t (x+y))))] ?_ ?_
  ·exact⟨⟨_,rfl,zIA rfl rfl rfl zdy rfl⟩,⟨_,rfl,Quq hΓ rfl rfl rfl (by simp[idsF,iW]) hou (Q3g x)⟩,⟨_,rfl,zIA rfl rfl rfl zdy rfl⟩,⟨_,rfl,Quq hΓ rfl rfl rfl (by simp[idsF,iW]) hou (Q3g y)⟩,⟨_,rfl,Qus rfl rfl rfl (.inl ⟨rfl,rfl⟩) zI⟩,⟨_,rfl,Quq hΓ rfl rfl rfl (by simp[idsF]) hou (Qg0 _ zoy zoy)⟩,⟨_,rfl,Qx7 Qjj rfl rfl⟩,trivial⟩
  refine zA ?_;exact Qwm rfl (Z7h rfl) (by simp[iW]) hou ⟨rfl,rfl⟩
 ·cases hv;refine⟨rfl,iW (Q5t (x - y)),.word _,?_⟩;refine zwk 152 Z7a fun hou=>?_;refine zA ?_;refine zdx 11 [(1,.one (.box [iW x])),(3,.one (int x)),(5,.one (.box [iW y])),(7,.one (int y)),(8,.one (int (x - y))),(9,.one (int (Q5t (x - y)))),(10,.one (iW (Q5t (x - y))))] ?_ ?_
  ·exact⟨⟨_,rfl,zIA rfl rfl rfl zdy rfl⟩,⟨_,rfl,Quq hΓ rfl rfl rfl (by simp[idsF,iW]) hou (Q3g x)⟩,⟨_,rfl,zIA rfl rfl rfl zdy rfl⟩,⟨_,rfl,Quq hΓ rfl rfl rfl (by simp[idsF,iW]) hou (Q3g y)⟩,⟨_,rfl,Qus rfl rfl rfl (.inr (.inl ⟨rfl,rfl⟩)) zI⟩,⟨_,rfl,Quq hΓ rfl rfl rfl (by simp[idsF]) hou (Qg0 _ zoy zoy)⟩,⟨_,rfl,Qx7 Qjj rfl rfl⟩,trivial⟩
  refine zA ?_;exact Qwm rfl (Z7h rfl) (by simp[iW]) hou ⟨rfl,rfl⟩
 ·cases hv;refine⟨rfl,iW (Q5t (x * y)),.word _,?_⟩;refine zwk 152 Z7a fun hou=>?_;refine zA ?_;refine zdx 11 [(1,.one (.box [iW x])),(3,.one (int x)),(5,.one (.box [iW y])),(7,.one (int y)),(8,.one (int (x * y))),(9,.one (int (Q5t (x * y)))),(10,.one (iW (Q5t (x * y))))] ?_ ?_
  ·exact⟨⟨_,rfl,zIA rfl rfl rfl zdy rfl⟩,⟨_,rfl,Quq hΓ rfl rfl rfl (by simp[idsF,iW]) hou (Q3g x)⟩,⟨_,rfl,zIA rfl rfl rfl zdy rfl⟩,⟨_,rfl,Quq hΓ rfl rfl rfl (by simp[idsF,iW]) hou (Q3g y)⟩,⟨_,rfl,Qus rfl rfl rfl (.inr (.inr ⟨rfl,rfl⟩)) zI⟩,⟨_,rfl,Quq hΓ rfl rfl rfl (by simp[idsF]) hou (Qg0 _ zoy zoy)⟩,⟨_,rfl,Qx7 Qjj rfl rfl⟩,trivial⟩
  refine zA ?_;exact Qwm rfl (Z7h rfl) (by simp[iW]) hou ⟨rfl,rfl⟩
 ·cases hv;refine⟨rfl,iB tObj [int (if decide (x < y)then 1 else 0),.sl 1 []],.obj _ [] [] .nil,?_⟩;refine zwk 152 Z7a fun hou=>?_;refine zA ?_;refine zdx 10 [(1,.one (.box [iW x])),(3,.one (int x)),(5,.one (.box [iW y])),(7,.one (int y)),(9,.one (iB tObj [int (if decide (x < y)then 1 else 0),.sl 1 []]))] ?_ ?_
  ·exact⟨⟨_,rfl,zIA rfl rfl rfl zdy rfl⟩,⟨_,rfl,Quq hΓ rfl rfl rfl (by simp[idsF,iW]) hou (Q3g x)⟩,⟨_,rfl,zIA rfl rfl rfl zdy rfl⟩,⟨_,rfl,Quq hΓ rfl rfl rfl (by simp[idsF,iW]) hou (Q3g y)⟩,⟨_,rfl,Quq hΓ rfl rfl rfl (by simp[idsF]) hou (Qax _)⟩,trivial⟩
  refine zA ?_;exact Qwm rfl (Z7h rfl) (by simp[iB]) hou ⟨rfl,rfl⟩
 ·cases hv;refine⟨rfl,iB tObj [int (if decide (x=y)then 1 else 0),.sl 1 []],.obj _ [] [] .nil,?_⟩;refine zwk 152 Z7a fun hou=>?_;refine zA ?_;refine zdx 10 [(1,.one (.box [iW x])),(3,.one (int x)),(5,.one (.box [iW y])),(7,.one (int y)),(9,.one (iB tObj [int (if decide (x=y)then 1 else 0),.sl 1 []]))] ?_ ?_
  ·exact⟨⟨_,rfl,zIA rfl rfl rfl zdy rfl⟩,⟨_,rfl,Quq hΓ rfl rfl rfl (by simp[idsF,iW]) hou (Q3g x)⟩,⟨_,rfl,zIA rfl rfl rfl zdy rfl⟩,⟨_,rfl,Quq hΓ rfl rfl rfl (by simp[idsF,iW]) hou (Q3g y)⟩,⟨_,rfl,Quq hΓ rfl rfl rfl (by simp[idsF]) hou (Qax _)⟩,trivial⟩
  refine zA ?_;exact Qwm rfl (Z7h rfl) (by simp[iB]) hou ⟨rfl,rfl⟩
end
end Go.Proofs.YtlmokgooijbcdaaGreatDoor
namespace Go.Abs
section
variable {E:Env}{o:Oper}{fr:Fr}{σ:St}{t T0 el yt:TypeId}{x y:Operand}
theorem Qy7(hc:E.P.concrete t=true)(ho:o.op=.typeAssert x T0 t false)(hx:Q08 E.Γ fr x=some (.one (.ifc t false [c]))):Q01 E o fr σ (.one c) σ:=by
 refine Qur fun F w C tmps hi hf=>?_;obtain⟨d,hd⟩:=Q64 hc;obtain⟨xs,h1,h2⟩:=Q04 (a:=⟨tmps,E.ds⟩) hi hf hx;simp only[RV]at h1;obtain⟨u,us,rfl,h3,rfl⟩:=h1;rcases h2 with ⟨h2,_⟩|⟨_,v,hv,h2⟩
 ·cases h2
 ·cases hv;refine⟨u,?_,h3⟩;have hrun:(Instr.typeAssert (.iface t u) T0 t false).run E.P w=.ok u w:=by unfold Program.concrete at hc;rw[hd]at hc;cases d <;> first|(simp at hc;done)|simp[Instr.typeAssert,run_underlying hd]
  unfold execOp;simp[ho,h2,hrun]
theorem Qy8{i j:Id}{cs ds:List AC}(hT:Q0t E.P E.T)(ht:E.P.underlying t=some (.pointer el))(htj:Tab.get el E.T=some tj)(hsz:Nat.beq tj.size 0=false)(ho:o.op=.binOp .neq t x y yt)(hx:Q08 E.Γ fr x=some (.one (.ptr i 0)))(hy:Q08 E.Γ fr y=some (.one (.ptr j 0)))
  (hi1:σ.get i=some (.cells cs)) (hj1:σ.get j=some (.cells ds)) (hne:i≠j):Q01 E o fr σ (.one (.lit (.bool true))) σ:=by
 refine Qur fun F w C tmps hi hf=>⟨.bool true,?_,rfl,rfl⟩;have h1:=Q04 (a:=⟨tmps,E.ds⟩) hi hf hx;have h2:=Q04 (a:=⟨tmps,E.ds⟩) hi hf hy;simp only[RF,R]at h1 h2;obtain⟨xs,T,b1,_⟩:=(hi.obj i _ hi1).2;obtain⟨ys,T',b2,_⟩:=(hi.obj j _ hj1).2;obtain⟨inf,d,z,hte,_,hz3,_⟩:=(hT _ _ htj).ex;have hsz:inf.size≠0:=fun e=>by rw[hz3]at e;rw[e]at hsz;cases hsz
 have hb:C.blk i≠C.blk j:=fun e=>hne (hi.inj i j _ _ (C.blk i) hi1 hj1 rfl (by simp only[AObj.block];rw[e]));have h:∀d:Nat,(Op.equalIn (d+1) t (.pointer (some ⟨C.blk i,0,none⟩)) (.pointer (some ⟨C.blk j,0,none⟩))).run E.P w=.ok false w:=fun d=>by simp[Op.equalIn,run_underlying ht,sizeOf,typeInfo,hte,hsz,run_sameAddr_other w (a:=⟨C.blk i,0,none⟩) (b:=⟨C.blk j,0,none⟩) (fun e=>hb (congrArg Addr.block e)) b1 b2]
 unfold execOp;simp only[ho,h1.2,h2.2,eqGuard_at_pointer,Z73,Z74,Z72];simp[binOp,Op.equal,Op.maxDepth,h 9999]
theorem Qy9{i:Id}(hT:Q0t E.P E.T)(ht:E.P.underlying t=some (.pointer el))(htj:Tab.get el E.T=some tj)(ho:o.op=.binOp .neq t x y yt)(hx:Q08 E.Γ fr x=some (.one (.ptr i 0)))(hy:Q08 E.Γ fr y=some (.one (.ptr i 0))):Q01 E o fr σ (.one (.lit (.bool false))) σ:=by
 refine Qur fun F w C tmps hi hf=>⟨.bool false,?_,rfl,rfl⟩;have h1:=Q04 (a:=⟨tmps,E.ds⟩) hi hf hx;have h2:=Q04 (a:=⟨tmps,E.ds⟩) hi hf hy;simp only[RF,R]at h1 h2;obtain⟨inf,d,z,hte,_⟩:=(hT _ _ htj).ex;have h:∀d:Nat,(Op.equalIn (d+1) t (.pointer (some ⟨C.blk i,0,none⟩)) (.pointer (some ⟨C.blk i,0,none⟩))).run E.P w=.ok true w:=fun d=>by simp[Op.equalIn,run_underlying ht,sizeOf,typeInfo,hte,run_sameAddr_same]
 unfold execOp;simp only[ho,h1.2,h2.2,eqGuard_at_pointer,Z73,Z74,Z72];simp[binOp,Op.equal,Op.maxDepth,h 9999]
end
end Go.Abs
namespace Go.Proofs.YtlmokgooijbcdaaGreatDoor
variable {Γ:List (Nat×List AC)}
section
variable {fu:Int}{fc:FcT}{fns:List Fun}{ou:Q03}{H:Hm}{nm:Nm2}{m:Ms}{ec vc kc:AC}{t:Tr}{e:En}
theorem StQ.fin{fn:Func}{H':Hm}{nm':Nm2}{x:Except Int Ms}{m':Ms}(h:aRes E.T fr σ fn.results.toList=some unitF)(hx:x=.ok m')(hm:Mo H nm H' nm')(hM:MR fu fc σ.ou H' nm' m'):Fin E fn (StQ fu fc H nm x) fr σ:=
 Qwm h (Z7i _) (by simp[unitF]) hM.ok ⟨rfl,H',nm',m',hx,hm,hM⟩
def Q77 (fu:Int)(fc:FcT)(ou:Q03)(H:Hm)(nm:Nm2)(m':Ms)(Γ:List (Nat×List AC)):Prop:=AFn Tryz.prog Γ 113 [.one (.ptr (.o 0) 0)] ou (StQ fu fc H nm (.ok m'))
theorem Qo4(hΓ:GI Γ)(h0:M0 fu fc ou H nm m (.box (cTr t)) ec vc kc)(hfc:fc.ids isO)(hk:KR H nm m.k kc)(h1:t.op=1):Q77 fu fc ou H nm { m with c:=.rt (.word t.n) } Γ:=by
 unfold Q77;have hoX:=h0.ouX;rw[hoX];have hw:=h0.w;rw[hoX]at hw;generalize hmc:ou=ou0 at hw;clear hoX;refine zwk 149 Z78 fun hou=>?_;cases t with
 |mk to tn tb tk ta=>
 obtain rfl:to=1:=h1;refine zA ?_;refine zS (Qx7 Qjj rfl rfl) ?_;refine zA ?_;exact StQ.fin rfl rfl (.refl _ _) (Qy4 hw (.word tn) hk h0.ids.2.1 hfc rfl rfl (fun _=>rfl))
theorem Qo3(hΓ:GI Γ)(h0:M0 fu fc ou H nm m (.box (cTr t)) ec vc kc)(hfc:fc.ids isO)(he:ER H nm e ec)(hk:KR H nm m.k kc)(h1:t.op=2):Q77 fu fc ou H nm { m with c:=.rt (.clo t e) } Γ:=by
 unfold Q77;have hei:=he.ids;have hoX:=h0.ouX;rw[hoX];have hw:=h0.w;rw[hoX]at hw;generalize hmc:ou=ou0 at hw;clear hoX;refine zwk 149 Z78 fun hou=>?_;cases t with
 |mk to tn tb tk ta=>
 obtain rfl:to=2:=h1;repeat ((fail_if_success ((with_reducible refine oj ?_);refine Qxs 69 rfl ?_));first|refine zO ?_)
 refine Z2l (.l 0) 68 rfl rfl ?_;refine zS (Qx7 Qd0 rfl rfl) ?_;refine zA ?_;exact StQ.fin rfl rfl (.refl _ _) (Qy4 hw (.clo _ e ec he) hk h0.ids.2.1 hfc rfl rfl (fun _=>rfl))
theorem Qo0(hΓ:GI Γ)(h0:M0 fu fc ou H nm m (.box (cTr t)) ec vc kc)(hfc:fc.ids isO)(he:ER H nm e ec)(hk:KR H nm m.k kc)(h1:t.op=0):Q77 fu fc ou H nm { m with c:=.rt (Qb4 t.n e) } Γ:=by
 unfold Q77;have hei:=he.ids;have hki:=hk.ids;have hoX:=h0.ouX;rw[hoX];have hw:=h0.w;rw[hoX]at hw;generalize hmc:ou=ou0 at hw;clear hoX;obtain⟨l,hch,hfd⟩:=he.ch;have hv:=hfd t.n;have hvi:=hv.ids;refine zwk 149 Z78 fun hou=>?_;cases t with
 |mk to tn tb tk ta=>
 obtain rfl:to=0:=h1;have hw1:WR (ouX (mC Q2b ec vc kc m.out m.steps fu fc) m.out.length ou0) H nm m.heap:=hw.put (by simp[mC,h0.ids.2.2.1,hei,hki,hfc,Q2b]) rfl rfl (fun _=>rfl);refine zA ?_;refine Q00.drawSt tabOk 14 13 [(10,.one (lookI tn l))] _ follows zky rfl rfl zky rfl ?_ rfl rfl rfl rfl ?_ ?_ (Qul tabOk rfl) ?_
 ·rfl
 ·exact⟨⟨_,rfl,Qx1 hΓ rfl rfl rfl rfl ⟨hei,trivial,trivial⟩ hou (Qqj hΓ hch tn _ hw.inO hei hvi)⟩,trivial⟩
 ·show Q0g _ _ _ (St.set ⟨0,[],ouX (mC (.box (cTr (.mk 0 tn tb tk ta))) ec vc kc m.out m.steps fu fc) m.out.length ou0⟩ (.o 0) (.cells (mC Q2b ec vc kc m.out m.steps fu fc))) _ _;rw[setX];exact⟨⟨_,rfl,Qx1 hΓ rfl rfl rfl rfl ⟨hei,trivial,trivial⟩ hw1.ok (Qqj hΓ hch tn _ hw1.inO hei hvi)⟩,trivial⟩
 refine zA ?_;exact StQ.fin rfl rfl (.refl _ _) (Qy4 hw hv hk hei hfc rfl rfl (fun _=>rfl))
theorem Qo5(hΓ:GI Γ)(h0:M0 fu fc ou H nm m (.box (cTr t)) ec vc kc)(he:ER H nm e ec)(hk:KR H nm m.k kc)(h1:¬(t.op=0∨t.op=1∨t.op=2∨t.op=17∨t.op=5)){x:Except Int Ms}
  (Z0d:AFn Tryz.prog Γ 111 [.one (.ptr (.o 0) 0),.one (.box [.box (cTr t),ec,.sl 1 [],kc])] ou (StQ fu fc H nm x)):AFn Tryz.prog Γ 113 [.one (.ptr (.o 0) 0)] ou (StQ fu fc H nm x):=by
 have hei:=he.ids;have hki:=hk.ids;have hoX:=h0.ouX;rw[hoX]at Z0d ⊢;generalize hmc:ou=ou0 at Z0d;clear hoX;refine zwk 149 Z78 fun hou=>?_;cases t with
 |mk to tn tb tk ta=>
 simp only[Tr.op]at h1;have e0:to≠0:=fun e=>h1 (.inl e);have e1:to≠1:=fun e=>h1 (.inr (.inl e));have e2:to≠2:=fun e=>h1 (.inr (.inr (.inl e)));have e17:to≠17:=fun e=>h1 (.inr (.inr (.inr (.inl e))));have e5:to≠5:=fun e=>h1 (.inr (.inr (.inr (.inr e))));refine zA ?_;refine Q00.cond rfl (fun hb=>absurd (by simpa using hb) e0) (fun _=>?_);refine zA ?_;refine Q00.cond rfl (fun hb=>absurd (by simpa using hb) e1) (fun _=>?_);refine zA ?_;refine Q00.cond rfl (fun hb=>absurd (by simpa using hb) e2) (fun _=>?_);refine zA ?_;refine Q00.cond rfl (fun hb=>absurd (by simpa using hb) e17) (fun _=>?_);refine zA ?_;refine Q00.cond rfl (fun hb=>absurd (by simpa using hb) e5) (fun _=>?_);refine zA ?_;refine Qxu (va:=.one (.ptr (.l 0) 0)) (σ1:=St.push ⟨0,[],ouX (mC (.box (cTr (.mk to tn tb tk ta))) ec vc kc m.out m.steps fu fc) m.out.length ou0⟩ (.cells [.box (cTr (.mk to tn tb tk ta)),ec,.lit (.slice none 0 0),kc])) tabOk 12 11 [] follows zky rfl rfl rfl rfl rfl rfl rfl (Q0b.auto tabOk rfl) trivial trivial ?_;refine Z2l (.l 0) 26 rfl rfl ?_;refine Z2n 26 rfl (y:=.one (.box [.box (cTr (.mk to tn tb tk ta)),ec,.sl 1 [],kc])) (.one (Z7g (.cons (.refl _) (.cons (.refl _) (.cons (.nilS 1) (.cons (.refl _) .nil)))))) ?_;refine Qv3 hΓ rfl rfl rfl rfl rfl rfl rfl ⟨trivial,⟨by simp,hei,trivial,hki,trivial⟩,trivial⟩ hou Z0d fun r ou' hq _ how=>?_;obtain⟨rfl,H',nm',m',hx,hmo,hM⟩:=hq;refine zA ?_;exact StQ.fin rfl hx hmo hM
end
end Go.Proofs.YtlmokgooijbcdaaGreatDoor
namespace Go.Abs
theorem CedFrN.consP{js:List Nat}{kk:Nat}{y:FV}{r:Fr}(h:Fr.get k fr=some y)(hy:y.ids isO)(hr:CedFrN (toOs js kk) fr r):CedFrN (toOs js kk) fr ((k,y)::r):=
 .cons h (FV.sub_f (fun i hi=>by cases i with|l q=>exact hi.elim|o q=>rfl) y hy) hr
end Go.Abs
namespace Go.Proofs.YtlmokgooijbcdaaGreatDoor
variable {Γ:List (Nat×List AC)}
def recC (base:AC):List (Nat×Nat)->AC
 |[]=>base
 |(k,_)::_=>.ptr (.o k) 0
def clC (t:Tr)(i r:Nat)(top:AC):List AC:=[.box (cTr (t.kids.getD i default)),if i < r then Q2b else top]
def RecO (t:Tr)(base top:AC)(r:Nat)(ou:Q03):List (Nat×Nat)->Prop
 |[]=>True
 |(k,q)::l=>ou k=some (.cells [int (t.binds.getD l.length 0),.ifc tClo false [.ptr (.o q) 0],recC base l])/\ou q=some (.cells (clC t l.length r top))/\RecO t base top r ou l
def nms:List (Nat×Nat)->List Nat
 |[]=>[]
 |(k,q)::l=>k::q::nms l
theorem Qfh(a b:List (Nat×Nat)):nms (a++b)=nms a++nms b:=by
 induction a with
 |nil=>rfl
 |cons x a ih=>obtain⟨k,q⟩:=x;simp[nms,ih]
structure RecI (t:Tr)(base top:AC)(r:Nat)(L:List (Nat×Nat))(ou0 ou:Q03):Prop where
 o:RecO t base top r ou L
 nd:(nms L).Nodup
 new:∀k∈nms L,ou0 k=none
 old:∀k,k∉nms L->ou k=ou0 k
 ok:OuOk ou
section
variable {t:Tr}{base top:AC}
theorem Qkh(hb:base.ids isO):∀L:List (Nat×Nat),(recC base L).ids isO
 |[]=>hb
 |(k,q)::l=>trivial
theorem RecO.chg{r r':Nat}{ou ou':Q03}:∀{L:List (Nat×Nat)},RecO t base top r ou L->(∀k∈nms L,ou' k=ou k)->(∀i,i < L.length->(i < r↔i < r'))->RecO t base top r' ou' L
 |[],_,_,_=>trivial
 |(k,q)::l,⟨h1,h2,h3⟩,h,hr=>by refine⟨by rw[h k (by simp[nms])];exact h1,?_,RecO.chg h3 (fun j hj=>h j (by simp[nms,hj])) fun i hi=>hr i zuy⟩;rw[h q (by simp[nms]),h2];have:=hr l.length zsy;unfold clC;simp only[this]
theorem RecO.setTop{r r':Nat}{ou:Q03}(top':AC):∀{L:List (Nat×Nat)},RecO t base top r ou L->L.length<=r->L.length<=r'->RecO t base top' r' ou L
 |[],_,_,_=>trivial
 |(k,q)::l,⟨h1,h2,h3⟩,hr,hr'=>by simp only[Z4h]at hr hr';refine⟨h1,?_,RecO.setTop top' h3 zoy zoy⟩;rw[h2];unfold clC;rw[if_pos zoy,if_pos zoy]
theorem RecO.hasC{r:Nat}{ou:Q03}:∀{L:List (Nat×Nat)},RecO t base top r ou L->∀k∈nms L,∃cs,ou k=some (.cells cs)
 |(k,q)::l,⟨h1,h2,h3⟩,j,hj=>by
  simp only[nms,Z53]at hj;rcases hj with rfl|rfl|hj
  ·exact⟨_,h1⟩
  ·exact⟨_,h2⟩
  ·exact RecO.hasC h3 j hj
theorem RecO.split{r:Nat}{ou:Q03}:∀{a b:List (Nat×Nat)},RecO t base top r ou (a++b)->RecO t base top r ou b
 |[],b,h=>h
 |(k,q)::a,b,h=>RecO.split (a:=a) h.2.2
theorem RecO.chain{H':Hm}{ou:Q03}:∀{L:List (Nat×Nat)},RecO t base top 0 ou L->(∀k∈nms L,∀cs,ou k=some (.cells cs)->H' k=some cs)->RecC H' t top L.length (recC base L) base
 |[],_,_=>.zero _
 |(k,q)::l,⟨h1,h2,h3⟩,h=>by refine .succ l.length k q (recC base l) base (h k (by simp[nms]) _ h1) ?_ (RecO.chain h3 fun j hj=>h j (by simp[nms,hj]));have:=h q (by simp[nms]) _ h2;simpa[clC]using this
theorem RecO.tie{k q:Nat}{l:List (Nat×Nat)}{ou ou':Q03}(hq:ou' q=some (.cells [.box (cTr (t.kids.getD l.length default)),top]))(ho:∀m,m≠q->ou' m=ou m):∀{a:List (Nat×Nat)},RecO t base top (l.length+1) ou (a++(k,q)::l)->(nms (a++(k,q)::l)).Nodup->RecO t base top l.length ou' (a++(k,q)::l)
 |[],⟨h1,h2,h3⟩,hn=>by simp only[Z5j,nms,Z5l,Z53]at hn;refine⟨by rw[ho k (by rintro rfl;exact hn.1 (.inl rfl))];exact h1,by rw[hq];simp[clC],RecO.chg h3 (fun j hj=>ho j (by rintro rfl;exact hn.2.1 hj)) fun i hi=>by omega⟩
 |(k0,q0)::a,⟨h1,h2,h3⟩,hn=>by
  simp only[Z3g,nms,Z5l,Z53]at hn;have hqm:q∈nms (a++(k,q)::l):=by rw[Qfh];simp[nms]
  refine⟨by rw[ho k0 (by rintro rfl;exact hn.1 (.inr hqm))];exact h1,?_,RecO.tie hq ho h3 hn.2.2⟩;rw[ho q0 (by rintro rfl;exact hn.2.1 hqm),h2];unfold clC;have hl:(a++(k,q)::l).length=a.length+l.length+1:=by simp;omega
  simp only[List.append_eq,hl];rw[if_neg zoy,if_neg zoy]
theorem RecI.tie{k q:Nat}{l a:List (Nat×Nat)}{ou0 ou ou':Q03}(h:RecI t base top (l.length+1) (a++(k,q)::l) ou0 ou)(hq:ou' q=some (.cells [.box (cTr (t.kids.getD l.length default)),top]))(ho:∀m,m≠q->ou' m=ou m)(ht:top.ids isO):RecI t base top l.length (a++(k,q)::l) ou0 ou':=by
 have hqm:q∈nms (a++(k,q)::l):=by rw[Qfh];simp[nms]
 refine⟨h.o.tie hq ho h.nd,h.nd,h.new,fun j hj=>?_,fun j o hj=>?_⟩
 ·rw[ho j (by rintro rfl;exact hj hqm)];exact h.old j hj
 ·by_cases e:j=q
  ·subst e;rw[hq]at hj;cases hj;exact⟨by simp,ht,trivial⟩
  ·rw[ho j e]at hj;exact h.ok j o hj
theorem RecI.add{r:Nat}{x:Int}(h:RecI t base top r L ou0 ou)(hr:L.length < r)(hs:t.kids.getD L.length default=s)(hx:t.binds.getD L.length 0=x)(hN1:NewO ou ou1 [(q,.cells [.box (cTr s),Q2b])])(hN2:NewO ou1 ou2 [(k,.cells [int x,.ifc tClo false [.ptr (.o q) 0],recC base L])]):RecI t base top r ((k,q)::L) ou0 ou2:=by
 have hq0:ou q=none:=hN1.new q (by simp[keys]);have hq1:ou1 q=some (.cells [.box (cTr s),Q2b]):=hN1.own (q,_) zsy;have hk1:ou1 k=none:=hN2.new k (by simp[keys]);have hk2:ou2 k=some (.cells [int x,.ifc tClo false [.ptr (.o q) 0],recC base L]):=hN2.own (k,_) zsy;have hkq:k≠q:=by rintro rfl;rw[hq1]at hk1;cases hk1
 have hk0:ou k=none:=by rw[←hN1.old k (by simp[keys];exact hkq)];exact hk1
 have hqL:q∉nms L:=fun hm=>by obtain⟨cs,hc⟩:=h.o.hasC q hm;rw[hq0]at hc;cases hc
 have hkL:k∉nms L:=fun hm=>by obtain⟨cs,hc⟩:=h.o.hasC k hm;rw[hk0]at hc;cases hc
 have hold:∀m,m≠k->m≠q->ou2 m=ou m:=fun m h1 h2=>by rw[hN2.old m (by simp[keys];exact h1),hN1.old m (by simp[keys];exact h2)]
 refine⟨⟨by rw[hx];exact hk2,?_,h.o.chg (fun j hj=>hold j (by rintro rfl;exact hkL hj) (by rintro rfl;exact hqL hj)) fun _ _=>Iff.rfl⟩,?_,?_,?_,hN2.ok⟩
 ·rw[hN2.old q (by simp[keys];exact fun e=>hkq e.symm),hq1];unfold clC;rw[if_pos hr,hs]
 ·simp only[nms,Z5l,Z53];exact⟨fun e=>e.elim hkq hkL,hqL,h.nd⟩
 ·intro j hj;simp only[nms,Z53]at hj;rcases hj with rfl|rfl|hj
  ·rw[←h.old j hkL];exact hk0
  ·rw[←h.old j hqL];exact hq0
  ·exact h.new j hj
 ·intro j hj;simp only[nms,Z53,not_or]at hj;rw[hold j hj.1 hj.2.1];exact h.old j hj.2.2
def recH (H:Hm)(ou:Q03)(L:List (Nat×Nat)):Hm:=fun k=>if k∈nms L then (match ou k with|some (.cells cs)=>some cs|_=>none)else H k
theorem RecI.gro{H:Hm}(h:RecI t base top 0 L ou0 ou)(hH:InOu H ou0):Gro ou0 H ou (recH H ou L):=by
 have hno:∀k cs,H k=some cs->k∉nms L:=fun k cs hk hm=>by have:=hH k cs hk;rw[h.new k hm]at this;cases this
 refine⟨fun k cs hk=>?_,fun k h1 h2=>?_,fun k o hk=>?_,fun k cs hk=>?_,h.ok,fun k o hk=>?_⟩
 ·unfold recH;rw[if_neg (hno k cs hk)];exact hk
 ·unfold recH at h2;split at h2
  ·rename_i hm;exact h.new k hm
  ·exact absurd h1 h2
 ·rw[h.old k (fun hm=>by rw[h.new k hm]at hk;cases hk)];exact hk
 ·unfold recH at hk;split at hk
  ·split at hk
   ·rename_i hc;cases hk;exact hc
   ·cases hk
  ·rename_i hm;rw[h.old k hm];exact hH k cs hk
 ·by_cases hm:k∈nms L
  ·obtain⟨cs,hc⟩:=h.o.hasC k hm;rw[hc]at hk;cases hk;exact .inr trivial
  ·rw[h.old k hm]at hk;exact .inl hk
end
section
variable {fu:Int}{fc:FcT}{fns:List Fun}{ou:Q03}{H:Hm}{nm:Nm2}{m:Ms}{ec vc kc:AC}{t:Tr}{e:En}
theorem Qo1(hΓ:GI Γ)(h0:M0 fu fc ou H nm m (.box (cTr t)) ec vc kc)(hfc:fc.ids isO)(he:ER H nm e ec)(hk:KR H nm m.k kc)(h1:t.op=5)(hkl:t.kids.length=t.binds.length+1)(Z0t:t.binds.length<=1048576):
  Q77 fu fc ou H nm { m with c:=.ev (t.kids.getD t.binds.length default) (.recs t e) } Γ:=by
 unfold Q77;have hei:=he.ids;have hki:=hk.ids;have hoX:=h0.ouX;rw[hoX];have hw:=h0.w;rw[hoX]at hw;generalize hmc:ou=ou0 at hw;clear hoX;obtain⟨le,hche,_⟩:=he.ch;cases t with
 |mk to tn tb tk ta=>
 obtain rfl:to=5:=h1;simp only[Tr.kids,Tr.binds]at hkl Z0t ⊢;obtain⟨T,hT⟩:∃T,T=Tr.mk 5 tn tb tk ta:=⟨_,rfl⟩;have hTk:T.kids=tk:=by rw[hT];rfl
 have hTb:T.binds=tb:=by rw[hT];rfl
 refine zwk 149 Z78 fun hou=>?_;obtain⟨oB,hoB⟩:∃oB,oB=ouX (mC (.box (cTr (.mk 5 tn tb tk ta))) ec vc kc m.out m.steps fu fc) m.out.length ou0:=⟨_,rfl⟩;have hB0:oB 0=some (.cells (mC (.box (cTr (.mk 5 tn tb tk ta))) ec vc kc m.out m.steps fu fc)):=by rw[hoB];rfl
 have hwB:WR oB H nm m.heap:=by rw[hoB];exact hw
 refine zA ?_;refine Qv6 hΓ (α:=Nat×List (Nat×Nat)×Q03) (fun a=>[(93,.one (int a.1)),(92,.one (int (tb.map cI).length)),(91,.one (.sl 1 (tb.map cI))),(3,.one (recC ec a.2.1)),(2,.one (.box (cTr (.mk 5 tn tb tk ta)))),(0,.one (.ptr (.o 0) 0))])
  (fun a=>⟨0,[],a.2.2⟩) (fun n a=>a.1<=tb.length/\a.2.1.length=a.1/\RecI T ec ec tb.length a.2.1 oB a.2.2/\n=tb.length - a.1) (a0:=(0,[],oB)) (ρ:=_root_.id) ⟨by simp,rfl,⟨trivial,by simp[nms],by simp[nms],fun _ _=>rfl,hwB.ok⟩,rfl⟩
  (Z39 rfl zFW (by simp[recC,Q4c hei]) zLO rfl (by rw[hoB]) (by rw[hoB]at hwB;exact hwB.ok)) fun n a ha=>?_
 obtain⟨j,L,ou1⟩:=a;obtain⟨hj,hL,hI,rfl⟩:=ha;dsimp only at hj hL hI ⊢;have Qzl:=hI.ok;have hri:(recC ec L).ids isO:=Qkh hei L;refine zA ?_;refine Q00.cond rfl (fun hb2=>?_) (fun hb2=>?_)
 ·have hlt:j < tb.length:=by simpa using hb2
  clear hb2;obtain⟨x,hx⟩:=Q02 hlt;obtain⟨s,hs⟩:=Q02 (l:=tk) (i:=j) zoy;refine zA ?_;refine zS (zIA rfl rfl rfl zoy (Q0f hx)) ?_;refine zA ?_;refine zS (zIA rfl rfl rfl zoy (Q1x hs)) ?_;repeat ((fail_if_success ((with_reducible refine oj ?_);refine Qxs 109 rfl ?_));first|refine zO ?_)
  refine Z2k [0] rfl zdy Qzl fun q hq=>⟨[(108,.one (.ptr (.o q) 0)),(99,.one (int x)),(98,.one (recC ec L)),(93,.one (int j)),(92,.one (int (tb.map cI).length)),(91,.one (.sl 1 (tb.map cI))),(2,.one (.box (cTr (.mk 5 tn tb tk ta)))),(0,.one (.ptr (.o 0) 0))],[],[.cells [.box (cTr s),Q2b]],?_,.nil,?_,?_⟩
  ·exact .cons rfl rfl (.cons rfl rfl (.consP rfl hri (.cons rfl rfl (.cons rfl rfl (.consP rfl zsy (.consP rfl zsy (.cons rfl rfl .nil)))))))
  ·exact .cons rfl (Z2g (fun i hi=>by cases i with|l q=>exact hi.elim|o q=>rfl) _ ⟨by simp,trivial,trivial⟩) .nil
  have hN1:=NewO.add hq Qzl (show (AObj.cells [.box (cTr s),Q2b]).ids isO from ⟨by simp,trivial,trivial⟩);refine zS (Qx7 Qd0 rfl rfl) ?_;refine Qv3 hΓ rfl rfl rfl rfl rfl rfl rfl ⟨hri,trivial,⟨trivial,trivial⟩,trivial⟩ hN1.ok (Qig x (.ifc tClo false [.ptr (.o q) 0]) (recC ec L) ⟨trivial,trivial⟩ hri _) fun r ou2 hq2 _ Qzs=>?_;obtain⟨k,rfl,hN2⟩:=hq2;have hI2:RecI T ec ec tb.length ((k,q)::L) oB ou2:=hI.add zoy (by rw[hTk,hL,Z42,hs];rfl) (by rw[hTb,hL,Z42,hx];rfl) hN1 hN2;refine zM ?_;exact cInv ⟨tb.length - (j+1),(j+1,(k,q)::L,ou2),_root_.id,by omega,⟨by omega,by simp[hL],hI2,rfl⟩,Z39 rfl zFW (by simp[recC]) zLO rfl rfl Qzs⟩
 ·have hlt:j=tb.length:=by simp at hb2;omega
  subst hlt;clear hb2;obtain⟨tp,htp⟩:∃tp,tp=recC ec L:=⟨_,rfl⟩;have hti:tp.ids isO:=by rw[htp];exact hri
  have hI0:RecI T ec tp L.length L oB ou1:=⟨hI.o.setTop tp zoy zoy,hI.nd,hI.new,hI.old,hI.ok⟩;refine zA ?_;refine Qv6 hΓ (α:=List (Nat×Nat)×List (Nat×Nat)×Q03) (fun a=>[(6,.one (recC ec a.2.1)),(3,.one tp),(2,.one (.box (cTr (.mk 5 tn tb tk ta)))),(0,.one (.ptr (.o 0) 0))])
   (fun a=>⟨0,[],a.2.2⟩) (fun n a=>a.1++a.2.1=L/\RecI T ec tp a.2.1.length L oB a.2.2/\n=a.2.1.length) (a0:=([],L,ou1)) (ρ:=_root_.id) ⟨rfl,hI0,rfl⟩
   (Z39 rfl (by rw[htp];(repeat' first|exact Q0k.nil|refine zfc ?_|refine zfo ?_|refine zfp ?_ (hp:=by first|assumption|(simp;done)))) (by simp[Q4c hri,Q4c hti]) zLO rfl rfl Qzl) fun n a ha=>?_
  obtain⟨A,l,ou3⟩:=a;obtain⟨hA,hI3,rfl⟩:=ha;dsimp only at hA hI3 ⊢;have hou3:=hI3.ok;have hx0:ou3 0=some (.cells (mC (.box (cTr (.mk 5 tn tb tk ta))) ec vc kc m.out m.steps fu fc)):=by rw[hI3.old 0 (fun hm=>by have:=hI3.new 0 hm;rw[hB0]at this;cases this)];exact hB0
  have e3:=Qgy (n:=m.out.length) hx0;have hI3o:RecO T ec tp l.length ou3 (A++l):=by rw[hA];exact hI3.o
  have hneq:∀{E:Env}{o:Oper}{fr:Fr}{x y:Operand}{yt:TypeId},E.P=Tryz.prog->Q0t E.P E.T->(∃tj,Tab.get 248 E.T=some tj/\Nat.beq tj.size 0=false)->o.op=.binOp .neq 100 x y yt->Q08 E.Γ fr x=some (.one (recC ec l))->Q08 E.Γ fr y=some (.one ec)->Q01 E o fr ⟨0,[],ou3⟩ (.one (.lit (.bool (!l.isEmpty)))) ⟨0,[],ou3⟩:=by
   intro E o fr x y yt hP hTb ⟨tj,htj,hsz⟩ ho hx hy;have hu:E.P.underlying 100=some (.pointer 248):=by rw[hP];exact Tryz.underlying100
   cases l with
   |nil=>cases hche with
    |nil=>exact Qx4 hu ho hx hy
    |cons i k0 vc0 nc l0 hk0 hch=>exact Qy9 hTb hu htj ho hx hy
   |cons p l=>
    obtain⟨k,q⟩:=p;have hkO:=(hI3o.split).1;cases hche with
    |nil=>exact Qx3 hu ho hx hy
    |cons i k0 vc0 nc l0 hk0 hch=>
     have hk0B:=hwB.inO k0 _ hk0;have hk0n:k0∉nms L:=fun hm=>by have:=hI3.new k0 hm;rw[hk0B]at this;cases this
     have hkm:k∈nms L:=by rw[←hA,Qfh];simp[nms]
     exact Qy8 hTb hu htj hsz ho hx hy hkO (show ou3 k0=_ by rw[hI3.old k0 hk0n];exact hk0B) (fun e=>by cases e;exact hk0n hkm)
  cases l with
  |nil=>
   rw[Z3f]at hA;subst hA;repeat' first|refine zN ?_|((with_reducible refine oj ?_);first|refine zix ?_|refine zow rfl rfl hx0 ?_)
   refine zS (hneq rfl tabOk ⟨_,rfl,rfl⟩ rfl rfl rfl) ?_;obtain⟨s,hs⟩:=Q02 (l:=tk) (i:=tb.length) zoy;have hix:(Q1a tk)[((tb.map cI).length:Int).toNat]?=some [.box (cTr s)]:=by simpa[cB]using Q1x hs
   have hgd:tk.getD tb.length default=s:=by rw[Z42,hs];rfl
   rw[e3];refine zA ?_;refine Q00.drawSt tabOk 17 16 [(11,.one (.box [.box (cTr s)]))] _ follows zky rfl rfl zky rfl ?_ rfl rfl rfl rfl ?_ ?_ (Qul tabOk rfl) ?_
   ·rfl
   ·exact⟨⟨_,rfl,zIA rfl rfl rfl zoy hix⟩,trivial⟩
   ·exact⟨⟨_,rfl,zIA rfl rfl rfl zoy hix⟩,trivial⟩
   refine zA ?_;have hg:=hI3.gro hwB.inO;have hw3:WR (ouX (mC (.box (cTr (.mk 5 tn tb tk ta))) ec vc kc m.out m.steps fu fc) m.out.length ou3) (recH H ou3 A) nm m.heap:=by rw[←e3];exact hwB.gro hg (by rw[hB0];simp) trivial
   have hrc:RecC (recH H ou3 A) T tp A.length (recC ec A) ec:=hI3.o.chain fun k hk cs hc=>by unfold recH;rw[if_pos hk,hc]
   have hAl:A.length=T.binds.length:=by rw[hTb];exact hL
   rw[hAl,←htp]at hrc;rw[hgd];refine StQ.fin rfl rfl (hg.mo nm) (Qy3 (e:=.recs (.mk 5 tn tb tk ta) e) hw3 ?_ (hk.mo (hg.mo nm)) h0.ids.2.2.1 hfc rfl rfl (fun _=>rfl));rw[←hT];exact .recs T e tp ec hrc (he.mo (hg.mo nm))
  |cons p l=>
   obtain⟨k,q⟩:=p;have hkO:=(hI3o.split);obtain⟨hkc,hqc,_⟩:=hkO;have hnd:=hI3.nd;rw[←hA]at hnd;have hkq:k≠q:=by rw[Qfh,Z5k]at hnd;have:=hnd.2.1;simp only[nms,Z5l,Z53,not_or]at this;exact this.1.1
   have hri2:(recC ec l).ids isO:=Qkh hei l;repeat' first|refine zN ?_|((with_reducible refine oj ?_);first|refine zix ?_|refine zow rfl rfl hx0 ?_)
   refine zS (hneq rfl tabOk ⟨_,rfl,rfl⟩ rfl rfl rfl) ?_;repeat' first|refine zN ?_|((with_reducible refine oj ?_);first|refine zix ?_|refine zow rfl rfl hkc ?_)
   refine zS (Qy7 Qd0 rfl rfl) ?_;refine zA ?_;refine Z2m tabOk rfl rfl rfl rfl rfl rfl rfl hqc (by simp[clC]) ?_;obtain⟨ou4,hou4⟩:∃ou4:Q03,ou4=(St.set ⟨0,[],ou3⟩ (.o q) (.cells ((clC T l.length (l.length+1) tp).set 1 tp))).ou:=⟨_,rfl⟩;have hσ:St.set ⟨0,[],ou3⟩ (.o q) (.cells ((clC T l.length (l.length+1) tp).set 1 tp))=⟨0,[],ou4⟩:=by rw[hou4];rfl
   have h4q:ou4 q=some (.cells [.box (cTr (T.kids.getD l.length default)),tp]):=by rw[hou4];simp[St.set,clC]
   have h4o:∀m,m≠q->ou4 m=ou3 m:=fun m hm=>by rw[hou4];simp[St.set,Q0d hm]
   have hI4:RecI T ec tp l.length (A++(k,q)::l) oB ou4:=RecI.tie (by rw[hA];exact hI3) h4q h4o hti;have hkc4:ou4 k=some (.cells [int (T.binds.getD l.length 0),.ifc tClo false [.ptr (.o q) 0],recC ec l]):=by rw[h4o k hkq];exact hkc
   refine AOps.stEq hσ ?_;repeat' first|refine zN ?_|((with_reducible refine oj ?_);first|refine zix ?_|refine zow rfl rfl hkc4 ?_)
   exact cInv ⟨l.length,(A++[(k,q)],l,ou4),_root_.id,by simp,⟨by simpa using hA,by rw[hA]at hI4;exact hI4,rfl⟩,Z39 rfl zFW (by simp[Q4c hri2,Q4c hti]) zLO rfl rfl hI4.ok⟩
end
end Go.Proofs.YtlmokgooijbcdaaGreatDoor
namespace Go.Abs
theorem CedFrN.gs{js:List Nat}{kk k j k' s:Nat}{es:List (List AC)}{fr r:Fr}(h:Fr.get k fr=some (.one (.gs s es (.l j))))(hes:idsS isO es)(hj:toOs js kk (.l j)=.o k')(hr:CedFrN (toOs js kk) fr r):CedFrN (toOs js kk) fr ((k,.one (.gs s es (.o k')))::r):=
 .cons h (by simp only[FV.sub,AC.sub];rw[hj,Qk8 (fun i hi=>by cases i with|l q=>exact hi.elim|o q=>rfl) es hes]) hr
end Go.Abs
namespace Go.Proofs.YtlmokgooijbcdaaGreatDoor
variable {Γ:List (Nat×List AC)}
section
variable {fu:Int}{fc:FcT}{fns:List Fun}{ou:Q03}{H:Hm}{nm:Nm2}{m:Ms}{tc ec vc kc:AC}{t:Tr}{e:En}
def PlQ (fu:Int)(fc:FcT)(H:Hm)(nm:Nm2)(m1:Ms)(v:Vl)(tc ec vc kc:AC):FV->Q03->Prop:=fun r ou'=>∃kt H1 nm1 c,r=.one c/\Mo H nm H1 nm1/\VR H1 nm1 v c/\M0 fu ⟨fc.ac,kt⟩ ou' H1 nm1 m1 tc ec vc kc
theorem Qya{n kt kt':Nat}{es es':List (List AC)}{heap:List (List Vl)}(w:WR (ouX mc n ou0) H nm heap)(hmc:mc[4]?=some (.gs 1 es (.o kt)))(hi:idsL isO mc')(hmc':mc'[4]?=some (.gs 1 es' (.o kt')))(h0:ou' 0=some (.cells mc'))(hk0:ouX mc n ou0 kt'=none)(h1:ou' kt'=some (.tok 3 1 es'.length))(hd:ou' kt=some .dead)(ho:∀k,1<=k->k≠kt->k≠kt'->ou' k=ou0 k):WR ou' H nm heap:=by
 obtain⟨kt2,e1,e2,e3,e4,e5⟩:=w.tk mc rfl _ _ hmc;cases e1;have hk1:1<=kt':=by
  match kt',hk0 with
  |0,h=>cases h
  |k+1,_=>omega
 have e:∀k,1<=k->k≠kt->k≠kt'->ou' k=ouX mc n ou0 k:=fun k hk h2 h3=>by obtain⟨j,rfl⟩:∃j,k=j+1:=⟨k - 1,by omega⟩;rw[ho _ hk h2 h3];rfl
 have hkH:∀k cs,H k=some cs->1<=k/\k≠kt/\k≠kt':=fun k cs hk=>by
  refine⟨?_,(by rintro rfl;rw[e4]at hk;cases hk),(by rintro rfl;rw[w.inO _ _ hk]at hk0;cases hk0)⟩
  match k with
  |0=>rw[w.sep.1]at hk;cases hk
  |k+1=>omega
 have hkA:∀(a k n:Nat),nm[a]?=some (k,n)->1<=k/\k≠kt/\k≠kt':=fun a k n h=>by refine⟨w.sep.2 a k n h,e5 a k n h,?_⟩;rintro rfl;obtain⟨cs,c1,_⟩:=w.arr a k n h;rw[c1]at hk0;cases hk0
 refine⟨fun k cs hk=>?_,fun k o hk=>?_,w.len,fun a k n h=>?_,w.aH,w.aa,w.sep,fun cs hc es2 i hi2=>?_,fun k o hk=>?_⟩
 ·obtain⟨h2,h3,h4⟩:=hkH k cs hk;rw[e k h2 h3 h4];exact w.inO k cs hk
 ·by_cases h2:k=0
  ·subst h2;rw[h0]at hk;cases hk;exact hi
  by_cases h3:k=kt
  ·subst h3;rw[hd]at hk;cases hk;trivial
  by_cases h4:k=kt'
  ·subst h4;rw[h1]at hk;cases hk;trivial
  rw[e k zoy h3 h4]at hk;exact w.ok k o hk
 ·obtain⟨h2,h3,h4⟩:=hkA a k n h;rw[e k h2 h3 h4];exact w.arr a k n h
 ·rw[h0]at hc;cases hc;rw[hmc']at hi2;cases hi2;refine⟨kt',rfl,hk1,h1,?_,fun a k n h=>(hkA a k n h).2.2⟩;cases hh:H kt' with
  |none=>rfl
  |some c=>exact absurd rfl (hkH _ _ hh).2.2
 ·by_cases h2:k=0
  ·subst h2;rw[h0]at hk;cases hk;trivial
  by_cases h3:k=kt
  ·subst h3;rw[hd]at hk;cases hk;trivial
  by_cases h4:k=kt'
  ·subst h4;rw[h1]at hk;cases hk;trivial
  rw[e k zoy h3 h4]at hk;exact w.pl k o hk
theorem Qmb(hΓ:GI Γ)(h0:M0 fu fc ou H nm m tc ec vc kc)(hfc:fc.ids isO)(a:Int)(hol:m.out.length<=1000)(hne:m.out.length≠1000):
  AFn Tryz.prog Γ 173 [.one (.ptr (.o 0) 0),.one (int 7),.one (.sl 1 [[iW a]])] ou (PlQ fu fc H nm { m with out:=m.out++[a] } (.obj 0 []) tc ec vc kc):=by
 have hoX:=h0.ouX;have Qz6:=h0.ids;have hw:=h0.w;rw[hoX]at hw ⊢;generalize hmc:ou=ou0 at hw;clear hoX;obtain⟨kt2,e1,e2,e3,e4,e5⟩:=hw.tk _ rfl _ _ (show (mC tc ec vc kc m.out m.steps fu fc)[4]?=_ from rfl);obtain⟨ac,kt⟩:=fc;simp only[Abs.Id.o.injEq]at e1;subst e1;obtain⟨kj,rfl⟩:∃kj,kt=kj+1:=⟨kt - 1,by omega⟩;refine zwk 152 Z7a fun hou=>?_;refine zA ?_;refine Q00.cond rfl (fun hb=>absurd (by simpa using hb) (show ¬((m.out.length:Int)=1000) by omega)) (fun _=>?_);refine zA ?_;refine Q00.drawC2 tabOk 13 [10,11,12] [(6,.one (.box [iW a])),(8,.one (int a))] (fun vs σ=>match vs with
   |[]=>σ=⟨0,[],ouX (mC tc ec vc kc m.out m.steps fu ⟨ac,kj+1⟩) m.out.length ou0⟩
   |[v]=>v=.one (.gs 1 (m.out.map cI++[[int a]]) (.l 0))/\σ=(St.set ⟨0,[],ouX (mC tc ec vc kc m.out m.steps fu ⟨ac,kj+1⟩) m.out.length ou0⟩ (.o (kj+1)) .dead).push (.tok 3 1 (m.out.map cI++[[int a]]).length)
   |[v,w]=>v=.one (.gs 1 (m.out.map cI++[[int a]]) (.l 0))/\w=.one (.ptr (.o 0) 0)/\σ=(St.set ⟨0,[],ouX (mC tc ec vc kc m.out m.steps fu ⟨ac,kj+1⟩) m.out.length ou0⟩ (.o (kj+1)) .dead).push (.tok 3 1 (m.out.map cI++[[int a]]).length)
   |[v,w,x]=>v=.one (.gs 1 (m.out.map cI++[[int a]]) (.l 0))/\w=.one (.ptr (.o 0) 0)/\x=.one (.ptr (.o 0) 4)/\σ=(St.set ⟨0,[],ouX (mC tc ec vc kc m.out m.steps fu ⟨ac,kj+1⟩) m.out.length ou0⟩ (.o (kj+1)) .dead).push (.tok 3 1 (m.out.map cI++[[int a]]).length)
   |_=>False) follows zky rfl rfl zdy zky zky rfl rfl ?_ ?_ zdy ?_ ?_
 ·intro vs σ h
  match vs with
  |[]=>subst h;rfl
  |[_]=>obtain⟨_,rfl⟩:=h;rfl
  |[_,_]=>obtain⟨_,_,rfl⟩:=h;rfl
  |[_,_,_]=>obtain⟨_,_,_,rfl⟩:=h;rfl
  |_::_::_::_::_=>exact h.elim
 ·intro vs σ h;have ho2:OuOk σ.ou:=by
   have hd:OuOk (St.set ⟨0,[],ouX (mC tc ec vc kc m.out m.steps fu ⟨ac,kj+1⟩) m.out.length ou0⟩ (.o (kj+1)) .dead).ou:=fun k o hk=>by
    simp only[St.set]at hk;by_cases e:k=kj+1
    ·subst e;simp at hk;subst hk;trivial
    ·rw[Q0d e]at hk;exact hou k o hk
   match vs with
   |[]=>subst h;exact hou
   |[_]=>obtain⟨_,rfl⟩:=h;exact hd
   |[_,_]=>obtain⟨_,_,rfl⟩:=h;exact hd
   |[_,_,_]=>obtain⟨_,_,_,rfl⟩:=h;exact hd
   |_::_::_::_::_=>exact h.elim
  exact⟨⟨_,rfl,zIA rfl rfl rfl zdy rfl⟩,⟨_,rfl,Quq hΓ rfl rfl rfl (by simp[idsF,iW]) ho2 (Q3g a)⟩,trivial⟩
 ·intro vs σ h i o hi ho
  match vs with
  |[]=>
   subst h;cases hi;cases ho;exact⟨rfl,.inl (.inl ⟨_,_,Q01.append tabOk rfl rfl rfl rfl rfl rfl (Qve _ _ _ _ _ (show ouX (mC tc ec vc kc m.out m.steps fu ⟨ac,kj+1⟩) m.out.length ou0 (kj+1)=_ from e3) zsy) (.sl 1 [[int a]]) rfl (by simp;show _ * 8<=_;omega) zuy,rfl,rfl⟩)⟩
  |[_]=>obtain⟨rfl,rfl⟩:=h;cases hi;cases ho;exact⟨rfl,.inl (.inl ⟨_,_,Quk tabOk rfl,rfl,rfl,rfl⟩)⟩
  |[_,_]=>obtain⟨rfl,rfl,rfl⟩:=h;cases hi;cases ho;exact⟨rfl,.inl (.inl ⟨_,_,Quk tabOk rfl,rfl,rfl,rfl,rfl⟩)⟩
  |_::_::_::_=>cases hi
 ·intro vs σ hl h
  match vs with
  |[_,_,_]=>
   obtain⟨rfl,rfl,rfl,rfl⟩:=h;have hIds:∀l:List Int,idsS isO (l.map cI):=fun l=>by simp
   have hd:OuOk (St.set ⟨0,[],ouX (mC tc ec vc kc m.out m.steps fu ⟨ac,kj+1⟩) m.out.length ou0⟩ (.o (kj+1)) .dead).ou:=fun k o hk=>by
    simp only[St.set]at hk;by_cases e:k=kj+1
    ·subst e;simp at hk;subst hk;trivial
    ·rw[Q0d e]at hk;exact hou k o hk
   refine Z2k [0] rfl zdy hd fun q hq=>⟨[(134,.one (.ptr (.o 0) 4)),(132,.one (.gs 1 (m.out.map cI++[[int a]]) (.o q)))],[],[.tok 3 1 (m.out.map cI++[[int a]]).length],?_,.nil,?_,?_⟩
   ·exact .cons rfl rfl (.gs rfl (by rw[show m.out.map cI++[[int a]]=(m.out++[a]).map cI by simp[cI]];exact hIds _) rfl .nil)
   ·exact .cons rfl rfl .nil
   have hq0:kj+1 < q:=by
    rcases Z6e (kj+1) q with h|h
    ·exact h
    ·have:=hq (kj+1) h;simp[St.push,St.set]at this
   generalize hA:(Q1i (((St.set ⟨0,[],ouX (mC tc ec vc kc m.out m.steps fu ⟨ac,kj+1⟩) m.out.length ou0⟩ (.o (kj+1)) .dead).push (.tok 3 1 (m.out.map cI++[[int a]]).length)).ou) q [.tok 3 1 (m.out.map cI++[[int a]]).length])=oA;have hA0:oA 0=some (.cells (mC tc ec vc kc m.out m.steps fu ⟨ac,kj+1⟩)):=by rw[←hA,Q1l zoy];rfl
   have hAq:oA q=some (.tok 3 1 (m.out.map cI++[[int a]]).length):=by rw[←hA];exact Q10 0
   have hAd:oA (kj+1)=some .dead:=by rw[←hA,Q1l hq0];simp[St.push,St.set]
   have hAk:∀k,1<=k->k≠kj+1->k≠q->oA k=ou0 k:=fun k h2 h3 h4=>by
    obtain⟨j,rfl⟩:∃j,k=j+1:=⟨k - 1,by omega⟩;rcases Z6e (j+1) q with h|h
    ·rw[←hA,Q1l h];simp[St.push,St.set,Q0d h3];rfl
    ·have e5:ou0 (j+1)=none:=by have:=hq (j+1) h;simp[St.push,St.set,Q0d h3]at this;exact this
     obtain⟨p,hp⟩:∃p,j+1=q+p:=⟨j+1 - q,by omega⟩;rw[e5,←hA,hp,Q10]
     match p,hp with
     |0,hp=>omega
     |p+1,_=>rfl
   have hqn:ouX (mC tc ec vc kc m.out m.steps fu ⟨ac,kj+1⟩) m.out.length ou0 q=none:=by have:=hq q (Z6b _);simp[St.push,St.set,Q0d (show q≠kj+1 by omega)]at this;exact this
   refine Z2m tabOk rfl rfl rfl rfl rfl rfl rfl hA0 (by simp[mC]) ?_;have hN:M0 fu ⟨ac,q⟩ (St.set ⟨1,[],oA⟩ (.o 0) (.cells ((mC tc ec vc kc m.out m.steps fu ⟨ac,kj+1⟩).set 4 (.gs 1 (m.out.map cI++[[int a]]) (.o q))))).ou H nm { m with out:=m.out++[a] } tc ec vc kc:=by
    have hmm:(mC tc ec vc kc m.out m.steps fu ⟨ac,kj+1⟩).set 4 (.gs 1 (m.out.map cI++[[int a]]) (.o q))=mC tc ec vc kc (m.out++[a]) m.steps fu ⟨ac,q⟩:=by simp[mC,cI]
    rw[hmm];refine⟨Qz6,by simp[St.set],Qya hw rfl (show idsL isO (mC tc ec vc kc (m.out++[a]) m.steps fu ⟨ac,q⟩)from ⟨Qz6.1,Qz6.2.1,Qz6.2.2.1,Qz6.2.2.2,⟨trivial,hIds _⟩,trivial,trivial,hfc,trivial⟩) (show (mC tc ec vc kc (m.out++[a]) m.steps fu ⟨ac,q⟩)[4]?=some (.gs 1 ((m.out++[a]).map cI) (.o q))from rfl) (by simp[St.set]) hqn ?_ ?_ ?_⟩
    ·simp[St.set,Q0d (show q≠0 by omega),hAq]
    ·simp[St.set,Q0d (show kj+1≠0 by omega),hAd]
    ·intro k h2 h3 h4;simp[St.set,Q0d (show k≠0 by omega)];exact hAk k h2 h3 h4
   have hNo:=hN.w.ok;repeat ((fail_if_success ((with_reducible refine oj ?_);refine Qxs 137 rfl ?_));first|refine zO ?_)
   refine Z2l (.l 1) 136 rfl rfl ?_;refine Z2n 136 rfl (y:=.one (.box [int 0,.sl 1 []])) (.one (Z7g (.cons (.refl _) (.cons (.nilS 1) .nil)))) ?_;refine zS (Qx7 Q6y rfl rfl) ?_;refine zA ?_;exact Qwm rfl (Z7h rfl) (by simp[iB]) hNo ⟨q,H,nm,iB tObj [int 0,.sl 1 []],rfl,.refl _ _,.obj 0 [] [] .nil,hN⟩
  |[]|[_]|[_,_]=>cases hl
  |_::_::_::_::_=>exact h.elim
end
section
variable {fu:Int}{fc:FcT}{fns:List Fun}{ou:Q03}{H:Hm}{nm:Nm2}{m m1:Ms}{v:Vl}{tc ec vc kc:AC}{t:Tr}{e:En}{d:List Vl}{k:List Fm}{dc:List (List AC)}{tc0 ec0 vc0 kc0:AC}
theorem Qoo(hΓ:GI Γ)(h0:M0 fu fc ou H nm m tc ec vc kc)(hd:VsR H nm d dc)(h6:t.op=6):
  AFn Tryz.prog Γ 143 [.one (.ptr (.o 0) 0),.one (.box (cTr t)),.one (.sl 1 dc)] ou (PlQ fu fc H nm m (.obj t.n d) tc ec vc kc):=by
 have hdi:=hd.ids;refine zwk 85 Tryz.func143 fun hou=>?_;cases t with
 |mk to tn tb tk ta=>
 obtain rfl:to=6:=h6;repeat ((fail_if_success ((with_reducible refine oj ?_);refine Qxs 23 rfl ?_));first|refine zO ?_)
 refine Z2l (.l 0) 22 rfl rfl ?_;refine zS (Qx7 Q6y rfl rfl) ?_;refine zA ?_;exact Qwm rfl (Z7h rfl) ⟨⟨trivial,hdi,trivial⟩,trivial⟩ hou ⟨fc.kt,H,nm,iB tObj [int tn,.sl 1 dc],rfl,.refl _ _,.obj tn d dc hd,h0⟩
theorem Qmc(hΓ:GI Γ)(hd:VsR H nm d dc)(h8:t.op=8)(hp:AFn Tryz.prog Γ 173 [.one (.ptr (.o 0) 0),.one (int t.n),.one (.sl 1 dc)] ou (PlQ fu fc H nm m1 v tc ec vc kc)):
  AFn Tryz.prog Γ 143 [.one (.ptr (.o 0) 0),.one (.box (cTr t)),.one (.sl 1 dc)] ou (PlQ fu fc H nm m1 v tc ec vc kc):=by
 have hdi:=hd.ids;refine zwk 85 Tryz.func143 fun hou=>?_;cases t with
 |mk to tn tb tk ta=>
 obtain rfl:to=8:=h8;refine zA ?_;refine Qv3 hΓ rfl rfl rfl rfl rfl rfl rfl ⟨trivial,trivial,hdi,trivial⟩ hou hp fun r ou' hq Qz6 how=>?_;obtain⟨kt,H1,nm1,c,rfl,hq⟩:=hq;refine zA ?_;exact Qwm rfl (Z7i _) Qz6 how ⟨kt,H1,nm1,c,rfl,hq⟩
theorem Qj1(h0:M0 fu fc ou H nm m tc0 ec0 vc0 kc0)(hk:KR H nm k kc)(hfc:fc.ids isO):M0 fu fc (ouX (mC tc0 ec0 vc0 kc m.out m.steps fu fc) m.out.length ou) H nm m tc0 ec0 vc0 kc:=by have hw:=h0.w;rw[h0.ouX]at hw;exact⟨⟨h0.ids.1,h0.ids.2.1,h0.ids.2.2.1,hk.ids⟩,rfl,hw.put (mc':=mC tc0 ec0 vc0 kc m.out m.steps fu fc) (by simp[mC,h0.ids.1,h0.ids.2.1,h0.ids.2.2.1,hk.ids,hfc]) rfl rfl (fun _=>rfl)⟩
theorem Qt3(hΓ:GI Γ)(h0:M0 fu fc ou H nm m tc0 ec0 vc0 kc0)(hfc:fc.ids isO)(he:ER H nm e ec)(hd:VsR H nm d dc)(hk:KR H nm k kc)(hl:d.length=1)(h7:t.op=7){x:Except Int Ms}
  (hch:∀ou',M0 fu fc ou' H nm m tc0 ec0 vc0 kc->AFn Tryz.prog Γ 138 [.one (.ptr (.o 0) 0),.one (.box [.box (cTr t),ec,.sl 1 dc,kc])] ou' (StQ fu fc H nm x)):
  AFn Tryz.prog Γ 111 [.one (.ptr (.o 0) 0),.one (.box [.box (cTr t),ec,.sl 1 dc,kc])] ou (StQ fu fc H nm x):=by
 have hN:=Qj1 h0 hk hfc;have hei:=he.ids;have hdi:=hd.ids;have hki:=hk.ids;have hdl:=hd.len;have hop:opdN t=1:=by unfold opdN;rw[if_pos (.inr (.inl h7))]
 have hoX:=h0.ouX;rw[hoX];generalize hmc:ou=ou0 at hN;clear hoX;refine zwk 262 Z77 fun hou=>?_;refine zA ?_;refine zdx 10 [(9,.one (int (opdN t)))] ?_ ?_
 ·exact⟨⟨_,rfl,Quq hΓ rfl rfl rfl (by simp[idsF]) hou (Qca t)⟩,trivial⟩
 refine zA ?_;refine Q00.cond rfl (fun hb=>absurd hb (by simp[hdl,hl,hop])) (fun hb=>?_);refine zA ?_;refine Q00.stEq (σ':=⟨0,[],ouX (mC tc0 ec0 vc0 kc m.out m.steps fu fc) m.out.length ou0⟩) (setX _ _ _ _) ?_;refine Q00.cond rfl (fun hb=>absurd hb (by simp[h7])) (fun _=>?_);refine zA ?_;refine Q00.cond rfl (fun _=>?_) (fun hb=>absurd hb (by simp[h7]));refine zA ?_;refine Qv3 hΓ rfl rfl rfl rfl rfl rfl rfl ⟨trivial,⟨by simp,hei,hdi,hki,trivial⟩,trivial⟩ hN.w.ok (hch _ hN) fun r ou' hq _ how=>?_;obtain⟨rfl,H',nm',m',hx,hmo,hM⟩:=hq;refine zA ?_;exact StQ.fin rfl hx hmo hM
theorem kid_app(hΓ:GI Γ)(h0:M0 fu fc ou H nm m tc0 ec0 vc0 kc0)(hfc:fc.ids isO)(he:ER H nm e ec){v0:Vl}{c0:AC}{ds:List (List AC)}(hv0:VR H nm v0 c0)(hd:VsR H nm d ds)(hk:KR H nm k kc)(hl:d.length+1=t.kids.length)(h3:t.op=3){x:Except Int Ms}
  (hcl:∀ou',M0 fu fc ou' H nm m tc0 ec0 vc0 kc->AFn Tryz.prog Γ 139 [.one (.ptr (.o 0) 0),.one c0,.one (.sl 1 ds)] ou' (StQ fu fc H nm x)):
  AFn Tryz.prog Γ 111 [.one (.ptr (.o 0) 0),.one (.box [.box (cTr t),ec,.sl 1 ([c0]::ds),kc])] ou (StQ fu fc H nm x):=by
 have hN:=Qj1 h0 hk hfc;have hei:=he.ids;have hdi:=hd.ids;have hvi:=hv0.ids;have hki:=hk.ids;have hdl:=hd.len;have hop:opdN t=t.kids.length:=by unfold opdN;rw[if_neg (by rw[h3];decide)]
 have hoX:=h0.ouX;rw[hoX];generalize hmc:ou=ou0 at hN;clear hoX;refine zwk 262 Z77 fun hou=>?_;refine zA ?_;refine zdx 10 [(9,.one (int (opdN t)))] ?_ ?_
 ·exact⟨⟨_,rfl,Quq hΓ rfl rfl rfl (by simp[idsF]) hou (Qca t)⟩,trivial⟩
 refine zA ?_;refine Q00.cond rfl (fun hb=>absurd hb (by simp[hdl,hop];omega)) (fun hb=>?_);refine zA ?_;refine Q00.stEq (σ':=⟨0,[],ouX (mC tc0 ec0 vc0 kc m.out m.steps fu fc) m.out.length ou0⟩) (setX _ _ _ _) ?_;refine Q00.cond rfl (fun hb=>absurd hb (by simp[h3])) (fun _=>?_);refine zA ?_;refine Q00.cond rfl (fun hb=>absurd hb (by simp[h3])) (fun _=>?_);refine zA ?_;refine Q00.cond rfl (fun _=>?_) (fun hb=>absurd hb (by simp[h3]));refine zA ?_;refine zdx 12 [(5,.one (.box [c0])),(11,.one (.sl 1 ds))] ?_ ?_
 ·exact⟨⟨_,rfl,zIA rfl rfl rfl zdy rfl⟩,⟨_,rfl,Qx0 (b:=1) (es:=[c0]::ds) tabOk rfl rfl rfl rfl rfl rfl rfl zsy⟩,trivial⟩
 refine zA ?_;refine Qv3 hΓ rfl rfl rfl rfl rfl rfl rfl ⟨trivial,hvi,hdi,trivial⟩ hN.w.ok (hcl _ hN) fun r ou' hq _ how=>?_;obtain⟨rfl,H',nm',m',hx,hmo,hM⟩:=hq;refine zA ?_;exact StQ.fin rfl hx hmo hM
theorem Qhc(hΓ:GI Γ)(h0:M0 fu fc ou H nm m tc0 ec0 vc0 kc0)(hfc:fc.ids isO)(he:ER H nm e ec)(hd:VsR H nm d dc)(hk:KR H nm k kc)(hl:d.length=opdN t)(hn:¬(t.op=4∨t.op=7∨t.op=3∨t.op=13∨t.op=12∨t.op=14∨t.op=15∨t.op=16))
  (hpl:∀ou',M0 fu fc ou' H nm m tc0 ec0 vc0 kc->AFn Tryz.prog Γ 143 [.one (.ptr (.o 0) 0),.one (.box (cTr t)),.one (.sl 1 dc)] ou' (PlQ fu fc H nm m1 v tc0 ec0 vc0 kc)):
  AFn Tryz.prog Γ 111 [.one (.ptr (.o 0) 0),.one (.box [.box (cTr t),ec,.sl 1 dc,kc])] ou (StQ fu fc H nm (.ok { m1 with c:=.rt v,k:=k })):=by
 have hN:=Qj1 h0 hk hfc;simp only[not_or]at hn;have hei:=he.ids;have hdi:=hd.ids;have hki:=hk.ids;have hdl:=hd.len;have hoX:=h0.ouX;rw[hoX];generalize hmc:ou=ou0 at hN;clear hoX;refine zwk 262 Z77 fun hou=>?_;refine zA ?_;refine zdx 10 [(9,.one (int (opdN t)))] ?_ ?_
 ·exact⟨⟨_,rfl,Quq hΓ rfl rfl rfl (by simp[idsF]) hou (Qca t)⟩,trivial⟩
 refine zA ?_;refine Q00.cond rfl (fun hb=>absurd hb (by simp[hdl,hl])) (fun hb=>?_);refine zA ?_;refine Q00.stEq (σ':=⟨0,[],ouX (mC tc0 ec0 vc0 kc m.out m.steps fu fc) m.out.length ou0⟩) (setX _ _ _ _) ?_;refine Q00.cond rfl (fun hb=>absurd hb (by simp[hn.1])) (fun _=>?_);refine zA ?_;refine Q00.cond rfl (fun hb=>absurd hb (by simp[hn.2.1])) (fun _=>?_);refine zA ?_;refine Q00.cond rfl (fun hb=>absurd hb (by simp[hn.2.2.1])) (fun _=>?_);refine zA ?_;refine Q00.cond rfl (fun hb=>absurd hb (by simp[hn.2.2.2.1])) (fun _=>?_);refine zA ?_;refine Q00.cond rfl (fun hb=>absurd hb (by simp[hn.2.2.2.2.1])) (fun _=>?_);refine zA ?_;refine Q00.cond rfl (fun hb=>absurd hb (by simp[hn.2.2.2.2.2.1])) (fun _=>?_);refine zA ?_;refine Q00.cond rfl (fun hb=>absurd hb (by simp[hn.2.2.2.2.2.2.1])) (fun _=>?_);refine zA ?_;refine Q00.cond rfl (fun hb=>absurd hb (by simp[hn.2.2.2.2.2.2.2])) (fun _=>?_);refine zA ?_;refine Q00.drawCS tabOk 15 11 12 13 14 (.one (.ptr (.o 0) 0)) (.one (.ptr (.o 0) 0)) []
  (fun r σ=>∃kt H1 nm1 c ou1,r=.one c/\σ=⟨0,[],ouX (mC tc0 ec0 vc0 kc m1.out m1.steps fu ⟨fc.ac,kt⟩) m1.out.length ou1⟩/\Mo H nm H1 nm1/\VR H1 nm1 v c/\WR (ouX (mC tc0 ec0 vc0 kc m1.out m1.steps fu ⟨fc.ac,kt⟩) m1.out.length ou1) H1 nm1 m1.heap)
  (fun r σ=>∃kt H1 nm1 c ou1,r=.one c/\σ=⟨0,[],ouX (mC Q2b ec0 vc0 kc m1.out m1.steps fu ⟨fc.ac,kt⟩) m1.out.length ou1⟩/\Mo H nm H1 nm1/\VR H1 nm1 v c/\WR (ouX (mC tc0 ec0 vc0 kc m1.out m1.steps fu ⟨fc.ac,kt⟩) m1.out.length ou1) H1 nm1 m1.heap)
  follows zky rfl rfl zdy zky zky rfl rfl rfl rfl rfl rfl rfl ?_ ?_ trivial (fun _ _ _=>trivial) (fun _ _ _=>trivial) ?_ ?_ ?_ ?_ ?_
 ·rintro r σ ⟨kt,H1,nm1,c,ou1,rfl,rfl,_⟩;rfl
 ·rintro r σ ⟨kt,H1,nm1,c,ou1,rfl,rfl,_⟩;rfl
 ·refine Qxe (Q27.call hΓ rfl rfl rfl rfl ⟨trivial,by simp,hdi,trivial⟩ hN.w.ok (hpl _ hN) fun r ou' hq hr ho=>?_);obtain⟨kt,H1,nm1,c,rfl,h1,h2,h3⟩:=hq;have hw:=h3.w;have e:=h3.ouX;rw[e]at hw;exact⟨kt,H1,nm1,c,ou',rfl,by rw[←e],h1,h2,hw⟩
 ·rintro r σ ⟨kt,H1,nm1,c,ou1,rfl,rfl,_⟩;exact Quk tabOk rfl
 ·rintro r σ ⟨kt,H1,nm1,c,ou1,rfl,rfl,_⟩;exact Quk tabOk rfl
 ·rintro r σ ⟨kt,H1,nm1,c,ou1,rfl,rfl,h1⟩;exact⟨_,⟨kt,H1,nm1,c,ou1,rfl,setX _ _ _ _,h1⟩,Qul tabOk rfl⟩
 ·rintro r σ ⟨kt,H1,nm1,c,ou1,rfl,rfl,h1,h2,h3⟩;refine zA ?_;have hM:MR fu ⟨fc.ac,kt⟩ (St.set ⟨0,[],ouX (mC Q2b ec0 vc0 kc m1.out m1.steps fu ⟨fc.ac,kt⟩) m1.out.length ou1⟩ (.o 0) (.cells (mC Q2b ec0 c kc m1.out m1.steps fu ⟨fc.ac,kt⟩))).ou H1 nm1 { m1 with c:=.rt v,k:=k }:=Qy4 h3 h2 (hk.mo h1) h0.ids.2.1 hfc rfl rfl (fun _=>rfl);exact StQ.fin rfl rfl h1 ⟨hM.ex⟩
end
end Go.Proofs.YtlmokgooijbcdaaGreatDoor
namespace Go.Abs
theorem Qyb{σ1 σ2:St}{x:FV}(h:Q01 E o fr σ x σ1)(hn:σ2.n=σ1.n)(hs:∀i o,σ2.get i=some o->σ1.get i=some o):Q01 E o fr σ x σ2:=
 fun F w C tmps hi hf next Q hk=>h F w C tmps hi hf next Q fun u w' C' hg hi' hr=>
  hk u w' C' hg ⟨hi'.base,by rw[hn];exact hi'.next,hi'.glob,hi'.prot,fun i o ho=>hi'.obj i o (hs i o ho),fun i j o o' g h1 h2 h3 h4=>hi'.inj i j o o' g (hs i o h1) (hs j o' h2) h3 h4⟩ hr
theorem Qyc{x y:FV}(h:Q01 E o fr σ x σ')(hw:WkF x y):Q01 E o fr σ y σ':=
 fun F w C tmps hi hf next Q hk=>h F w C tmps hi hf next Q fun u w' C' hg hi' hr=>hk u w' C' hg hi' (hw _ _ _ hr)
end Go.Abs
namespace Go.Proofs.YtlmokgooijbcdaaGreatDoor
variable {Γ:List (Nat×List AC)}
def Qrk (cs:List (List AC))(ou:Q03)(r:FV)(ou':Q03):Prop:=
 (cs=[]/\r=.one (.lit (.slice none 0 0))/\ou'=ou)∨∃q,r=.one (.gs 1 cs (.o q))/\ou' q=some (.tok 101 1 cs.length)/\ou q=none/\∀m,m≠q->ou' m=ou m
theorem Qqw(hΓ:GI Γ)(cs:List (List AC))(hl:cs.length<=1048576)(hi:idsS isO cs)(h1:∀x∈cs,x.length=1)(ou:Q03):AFn Tryz.prog Γ 112 [.one (.sl 1 cs)] ou (Qrk cs ou):=by
 refine zwk 8 Tryz.func112 fun hou=>?_;refine zA ?_;refine Qwf rfl rfl rfl rfl Tryz.underlying189 rfl rfl fun b hb=>?_;cases b with
 |true=>
  have hz:cs=[]:=by have:=hb rfl;simpa using this
  subst hz;refine zA ?_;exact Qwm rfl (.refl _) zsy hou (.inl ⟨rfl,rfl,rfl⟩)
 |false=>
  refine zA ?_;refine zS (Qxt tabOk rfl rfl rfl rfl rfl) ?_;refine zA ?_;refine AOps.app tabOk rfl rfl rfl rfl rfl rfl rfl rfl rfl (Qve _ _ _ _ _ (by rfl) zsy) (.sl _ _) rfl (by simp;show _ * 16<=_;omega) zuy ?_;refine Z2k [1] rfl zdy hou fun q hq=>⟨[(7,.one (.gs 1 ([]++cs) (.o q)))],[],[.tok 101 1 ([]++cs).length],.gs rfl (by simpa using hi) rfl .nil,.nil,.cons rfl rfl .nil,?_⟩;have hN:=NewO.add hq hou (show (AObj.tok 101 1 ([]++cs).length).ids isO from trivial);refine zA ?_;refine Qwm rfl (Z7h rfl) ⟨trivial,by simpa using hi⟩ hN.ok (.inr ⟨q,by simp,?_,hN.new q (by simp[keys]),fun m hm=>hN.old m (by simp[keys];exact hm)⟩);have:=hN.own (q,_) (Z5h.2 rfl);simpa using this
section
variable {fu:Int}{ac:AC}{fns:List Fun}{G:GP}
def KidC (fu:Int)(ac:AC)(G:GP)(Γ:List (Nat×List AC)):Prop:=∀(ou:Q03)(H:Hm)(nm:Nm2)(m m':Ms)(t:Tr)(e:En)(d:List Vl)(k:List Fm)(ec kc tc0 ec0 vc0 kc0:AC)(dc:List (List AC))(kt:Nat),M0 fu ⟨ac,kt⟩ ou H nm m tc0 ec0 vc0 kc0->ER H nm e ec->VsR H nm d dc->KR H nm k kc->
 allT G.p t->gE G e->gVs G d->d.length<=opdN t->nLf t.op->gFs G k->(G.R->k.length<=1048576)->m.out.length<=1000->kidM fu G.fns m (.mk t e d) k=.ok m'->(G.R->m'.k.length<=1048576)->AFn Tryz.prog Γ 111 [.one (.ptr (.o 0) 0),.one (.box [.box (cTr t),ec,.sl 1 dc,kc])] ou (StQ fu ⟨ac,kt⟩ H nm (.ok m'))
def bndX (fu:Int)(fns:List Fun):Nat->Ms->Bool
 |0,m=>decide (m.k.length<=1048576)
 |g+1,m=>decide (m.k.length<=1048576)&&(match Q29 fu fns m with
  |.next m'=>bndX fu fns g m'
  |_=>true)
theorem bndX_k{fns:List Fun}{m:Ms}(h:bndX fu fns g m=true):m.k.length<=1048576:=by
 cases g with
 |zero=>simpa[bndX]using h
 |succ g=>simp only[bndX,Z2w,decide_eq_true_eq]at h;exact h.1
def StartC (fu:Int)(ac:AC)(G:GP)(Γ:List (Nat×List AC)):Prop:=∀(ou:Q03)(H:Hm)(nm:Nm2)(m m':Ms)(t:Tr)(e:En)(ec vc kc:AC)(kt:Nat),M0 fu ⟨ac,kt⟩ ou H nm m (.box (cTr t)) ec vc kc->ER H nm e ec->KR H nm m.k kc->
 allT G.p t->gE G e->gFs G m.k->(G.R->m.k.length<=1048576)->m.out.length<=1000->Q3w fu G.fns m t e=.ok m'->(G.R->m'.k.length<=1048576)->AFn Tryz.prog Γ 113 [.one (.ptr (.o 0) 0)] ou (StQ fu ⟨ac,kt⟩ H nm (.ok m'))
theorem VsR.ones{H:Hm}{nm:Nm2}:∀{v:List Vl}{c:List (List AC)},VsR H nm v c->∀x∈c,x.length=1
 |_,_,.nil,x,hx=>by cases hx
 |_,_,.cons v c vs cs hv h,x,hx=>by
  rcases Z53.1 hx with rfl|hx
  ·rfl
  ·exact VsR.ones h x hx
theorem run_ok(hΓ:GI Γ)(hac:ac.ids isO)(hG:GPok G)(Z15:∀t,allT G.p t->opdN t<=1048576)(Z0d:KidC fu ac G Γ)(hstart:StartC fu ac G Γ){H:Hm}{nm:Nm2}{m0:Ms}(h0:MR fu ⟨ac,kt0⟩ ou H nm m0)(hg0:gM G m0){g0:Nat}{mf:Ms}{vf:Vl}(hgo:goX fu G.fns g0 m0=some (.done mf vf))(hbd:G.R->bndX fu G.fns g0 m0=true)(hol:mf.out.length<=1000)(hfu:0<=fu/\fu<=1000000)(hst0:0<=m0.steps)(hmf:mf.steps<=fu):
  AFn Tryz.prog Γ 80 [.one (.ptr (.o 0) 0)] ou (fun r ou'=>r=.one (.lit (.bool true))/\mf.c=.rt vf/\mf.k=[]/\∃H' nm',MR fu ⟨ac,kt0⟩ ou' H' nm' mf):=by
 refine zwk 70 Tryz.func80 fun hou=>?_;refine zA ?_;refine Qv6 hΓ (α:=Q03×Hm×Nm2×Ms) (fun a=>[(0,.one (.ptr (.o 0) 0))]) (fun a=>⟨0,[],a.1⟩) (fun g a=>MR fu ⟨ac,kt0⟩ a.1 a.2.1 a.2.2.1 a.2.2.2/\gM G a.2.2.2/\goX fu G.fns g a.2.2.2=some (.done mf vf)/\0<=a.2.2.2.steps/\(G.R->bndX fu G.fns g a.2.2.2=true))
  (a0:=(ou,H,nm,m0)) (ρ:=_root_.id) ⟨h0,hg0,hgo,hst0,hbd⟩ (Z39 rfl zFW zsy zLO rfl rfl hou) fun g a ha=>?_
 obtain⟨ou1,H1,nm1,m⟩:=a;obtain⟨hM,hgm,hgo,hst,hbx⟩:=ha;dsimp only at hM hgm hgo hst hbx ⊢;clear hou h0 hg0 hst0 hbd;obtain⟨kt,tc,ec,vc,kc,hCR,hKR,h0⟩:=hM.ex;have hou:=h0.w.ok;have Z1y:m.out.length<=1000:=by
  rcases Qqa hgo with h|h
  ·exact Z6c h hol
  ·cases h
 obtain⟨g,rfl⟩:∃g',g=g'+1:=by
  cases g with
  |zero=>cases hgo
  |succ g=>exact⟨g,rfl⟩
 simp only[goX]at hgo;have hkl:G.R->m.k.length<=1048576:=fun hR=>by have:=hbx hR;simp only[bndX,Z2w,decide_eq_true_eq]at this;exact this.1
 have hbn:G.R->∀m1,Q29 fu G.fns m=.next m1->bndX fu G.fns g m1=true:=fun hR m1 h1=>by have:=hbx hR;simp only[bndX,h1,Z2w]at this;exact this.2
 have Qz6:=h0.ids;have hoX:=h0.ouX;have hki:=hKR.ids;have hw:=h0.w;rw[hoX]at hw hou ⊢;obtain⟨mc,mk,mo,ms,mh⟩:=m;dsimp only at hgo hst hw hou Qz6 hki Z1y h0 hkl hbn ⊢;cases hCR with
 |ev t e ec vc he=>
  have hei:=he.ids;have hsf:¬ms=fu:=fun h=>by simp[Q29,h]at hgo
  rw[Qf8 rfl hsf]at hgo;have hox:∃m',Q3w fu G.fns ⟨.ev t e,mk,mo,ms+1,mh⟩ t e=.ok m':=by
   cases hx:Q3w fu G.fns ⟨.ev t e,mk,mo,ms+1,mh⟩ t e with
   |ok m'=>exact⟨m',rfl⟩
   |error c=>simp only[hx,rdOf]at hgo;cases hgo
  obtain⟨m',hx⟩:=hox;simp only[hx,rdOf]at hgo;have Z1z:gM G m':=Qke hG hgm (by rw[Qf8 rfl hsf,hx];rfl);have Z16:G.R->bndX fu G.fns g m'=true:=fun hR=>hbn hR m' (by rw[Qf8 rfl hsf,hx];rfl);have haf:=Qk9 (fu:=fu) (fns:=G.fns) hx;have hfu':m'.steps<=fu:=Int.le_trans (goX_ge hgo zsy) hmf;simp only at haf;refine zA ?_;refine zS (Qxb Z7e rfl rfl rfl) ?_;refine zM ?_;refine zS (Qxc Z7e rfl rfl rfl) ?_;refine zA ?_;refine Qvh tabOk 8 [] follows zky rfl rfl rfl rfl trivial ?_;refine zA ?_;refine Q00.cond rfl (fun hb=>absurd (by simpa using hb) hsf) (fun _=>?_);refine zM ?_;have hN:M0 fu ⟨ac,kt⟩ (St.set ⟨0,[],ouX (mC (.box (cTr t)) ec vc kc mo ms fu ⟨ac,kt⟩) mo.length ou1⟩ (.o 0) (.cells (mC (.box (cTr t)) ec vc kc mo (ms+1) fu ⟨ac,kt⟩))).ou H1 nm1 ⟨.ev t e,mk,mo,ms+1,mh⟩ (.box (cTr t)) ec vc kc:=
   ⟨Qz6,rfl,hw.put (mc':=mC (.box (cTr t)) ec vc kc mo (ms+1) fu ⟨ac,kt⟩) (by simp[mC,Qz6,hei,hki,hac]) rfl rfl (fun _=>rfl)⟩
  refine Qv3 hΓ rfl rfl rfl rfl rfl rfl rfl ⟨trivial,trivial⟩ hN.w.ok (hstart _ H1 nm1 _ m' t e ec vc kc kt hN he hKR hgm.c.1 hgm.c.2 hgm.k hkl Z1y hx fun hR=>bndX_k (Z16 hR)) fun r ou2 hq _ how=>?_;obtain⟨rfl,H',nm',m2,hx2,hmo,hM2⟩:=hq;cases hx2;refine zA ?_;exact cInv ⟨g,(ou2,H',nm',m'),_root_.id,by omega,⟨⟨hM2.ex⟩,Z1z,hgo,by dsimp only;omega,Z16⟩,Z39 rfl zFW zsy zLO rfl rfl how⟩
 |rt v ec vc hv=>
  have hvi:=hv.ids;cases hKR with
  |nil=>
   have hr:Q29 fu G.fns ⟨.rt v,[],mo,ms,mh⟩=.done ⟨.rt v,[],mo,ms,mh⟩ v:=by simp[Q29]
   rw[hr]at hgo;cases hgo;refine zA ?_;refine zS (Qx4 Z7e rfl rfl rfl) ?_;refine zM ?_;refine zS (Qx4 Tryz.underlying102 rfl rfl rfl) ?_;refine zM ?_;refine Qwm rfl (Z7h rfl) zsy hou ⟨rfl,rfl,rfl,H1,nm1,⟨⟨kt,Q2b,ec,vc,Q2b,.rt _ ec vc hv,.nil,?_⟩⟩⟩;rw[←hoX];exact h0
  |cons t e d k ec2 dc kc2 he hd hk=>
   have hei:=he.ids;have hdi:=hd.ids;have hk2i:=hk.ids;have hgf:=hgm.k;obtain⟨⟨g1,g2,g3,g4,gn⟩,g5⟩:=hgf;have hdl:=hd.len;rw[Qf7 (f:=.mk t e d) (k:=k) rfl rfl]at hgo;have hox:∃m',kidM fu G.fns ⟨.rt v,.mk t e d::k,mo,ms,mh⟩ (.mk t e (d++[v])) k=.ok m':=by
    cases hx:kidM fu G.fns ⟨.rt v,.mk t e d::k,mo,ms,mh⟩ (.mk t e (d++[v])) k with
    |ok m'=>exact⟨m',rfl⟩
    |error c=>simp only[Qy0,Qy1,Qy2,hx,rdOf]at hgo;cases hgo
   obtain⟨m',hx⟩:=hox;simp only[Qy0,Qy1,Qy2,hx,rdOf]at hgo;have Z1z:gM G m':=Qke hG hgm (by rw[Qf7 (fu:=fu) (f:=.mk t e d) (k:=k) rfl rfl];simp only[Qy0,Qy1,Qy2,hx];rfl);have Z16:G.R->bndX fu G.fns g m'=true:=fun hR=>hbn hR m' (by rw[Qf7 (fu:=fu) (f:=.mk t e d) (k:=k) rfl rfl];simp only[Qy0,Qy1,Qy2,hx];rfl);have haf:=(Qa1 hx d v (.inl rfl)).ge;simp only at haf;have hopt:=Z15 t g1;have hD:VsR H1 nm1 (d++[v]) (dc++[[vc]]):=hd.snoc hv;have hDi:=hD.ids;have hcl:=Qqw hΓ dc zoy hdi hd.ones;refine zA ?_;refine zS (Qx4 Z7e rfl rfl rfl) ?_;refine zM ?_;refine zS (Qxb Tryz.underlying102 rfl rfl rfl) ?_;refine zM ?_;refine zS (Qx2 Z7e rfl rfl rfl) ?_;refine zA ?_;have hkd:=Z0d (ouX (mC Q2b ec vc (.box [.box (cTr t),ec2,.sl 1 dc,kc2]) mo ms fu ⟨ac,kt⟩) mo.length ou1) H1 nm1 ⟨.rt v,.mk t e d::k,mo,ms,mh⟩ m' t e (d++[v]) k ec2 kc2 Q2b ec vc (.box [.box (cTr t),ec2,.sl 1 dc,kc2]) (dc++[[vc]]) kt (by rw[←hoX];exact h0) he hD hk g1 g2 (Qja g3 ⟨hgm.c,trivial⟩) zuy gn g5 (fun hR=>by have:=hkl hR;simp only[Z4h]at this;omega) Z1y hx fun hR=>bndX_k (Z16 hR);refine Q00.drawC2 tabOk 26 [13,19,24,25] [(18,.one (.sl 1 [[vc]]))] (fun vs σ=>match vs with
    |[]=>σ=⟨0,[],ouX (mC Q2b ec vc (.box [.box (cTr t),ec2,.sl 1 dc,kc2]) mo ms fu ⟨ac,kt⟩) mo.length ou1⟩
    |[a]=>∃ou2,Qrk dc (ouX (mC Q2b ec vc (.box [.box (cTr t),ec2,.sl 1 dc,kc2]) mo ms fu ⟨ac,kt⟩) mo.length ou1) a (ouX (mC Q2b ec vc (.box [.box (cTr t),ec2,.sl 1 dc,kc2]) mo ms fu ⟨ac,kt⟩) mo.length ou2)/\σ=⟨0,[],ouX (mC Q2b ec vc (.box [.box (cTr t),ec2,.sl 1 dc,kc2]) mo ms fu ⟨ac,kt⟩) mo.length ou2⟩
    |[a,b]=>b=.one (.sl 1 (dc++[[vc]]))/\σ=⟨1,[],ouX (mC Q2b ec vc (.box [.box (cTr t),ec2,.sl 1 dc,kc2]) mo ms fu ⟨ac,kt⟩) mo.length ou1⟩
    |[a,b,c]=>b=.one (.sl 1 (dc++[[vc]]))/\c=.agg [.box (cTr t),ec2,.sl 1 (dc++[[vc]]),kc2]/\σ=⟨1,[],ouX (mC Q2b ec vc (.box [.box (cTr t),ec2,.sl 1 dc,kc2]) mo ms fu ⟨ac,kt⟩) mo.length ou1⟩
    |[a,b,c,g]=>b=.one (.sl 1 (dc++[[vc]]))/\c=.agg [.box (cTr t),ec2,.sl 1 (dc++[[vc]]),kc2]/\g=.one (.box [.box (cTr t),ec2,.sl 1 (dc++[[vc]]),kc2])/\σ=⟨1,[],ouX (mC Q2b ec vc (.box [.box (cTr t),ec2,.sl 1 dc,kc2]) mo ms fu ⟨ac,kt⟩) mo.length ou1⟩
    |_=>False) follows zky rfl rfl zdy zky zky rfl rfl ?_ ?_ zdy ?_ ?_
   ·intro vs σ h
    match vs with
    |[]=>subst h;rfl
    |[_]=>obtain⟨_,_,rfl⟩:=h;rfl
    |[_,_]=>obtain⟨_,rfl⟩:=h;rfl
    |[_,_,_]=>obtain⟨_,_,rfl⟩:=h;rfl
    |[_,_,_,_]=>obtain⟨_,_,_,rfl⟩:=h;rfl
    |_::_::_::_::_::_=>exact h.elim
   ·intro vs σ h;exact⟨⟨_,rfl,Q0b.auto tabOk rfl⟩,trivial⟩
   ·intro vs σ h i o hi ho
    match vs with
    |[]=>
     subst h;cases hi;cases ho;refine⟨rfl,.inl (.inr ⟨rfl,Q27.call hΓ rfl rfl rfl rfl ⟨hdi,trivial⟩ hou (hcl _) fun r ou' hq hr ho=>?_⟩)⟩;have e:ou'=ouX (mC Q2b ec vc (.box [.box (cTr t),ec2,.sl 1 dc,kc2]) mo ms fu ⟨ac,kt⟩) mo.length ou':=Qgy (by
      rcases hq with ⟨_,_,rfl⟩|⟨q,_,_,h1,h2⟩
      ·rfl
      ·rw[h2 0 (by rintro rfl;cases h1)];rfl)
     exact⟨ou',by rw[←e];exact hq,by rw[←e]⟩
    |[a]=>
     obtain⟨ou2,hq,rfl⟩:=h;cases hi;cases ho;rcases hq with ⟨rfl,rfl,h1⟩|⟨q,rfl,h1,h2,h3⟩
     ·refine⟨rfl,.inl (.inl ⟨_,_,Qyb (σ2:=⟨1,[],ouX (mC Q2b ec vc (.box [.box (cTr t),ec2,.sl 1 _,kc2]) mo ms fu ⟨ac,kt⟩) mo.length ou1⟩) (Qyc (Q01.append tabOk rfl rfl rfl rfl rfl rfl (Base.nil _ _) (.sl 1 [[vc]]) rfl (by show (0+1) * 16<=140737488355328;decide) zsy) (.one (.gsE zsy))) rfl ?_,rfl,rfl⟩)⟩;intro i o hi;cases i with
      |l j=>cases hi
      |o j=>exact (congrFun h1 j).trans hi
     ·refine⟨rfl,.inl (.inl ⟨_,_,Qyb (σ2:=⟨1,[],ouX (mC Q2b ec vc (.box [.box (cTr t),ec2,.sl 1 _,kc2]) mo ms fu ⟨ac,kt⟩) mo.length ou1⟩) (Qyc (Q01.append tabOk rfl rfl rfl rfl rfl rfl (Qve _ _ _ _ _ h1 rfl) (.sl 1 [[vc]]) rfl (by simp;show _ * 16<=_;omega) zuy) (.one (.gsE zsy))) rfl ?_,rfl,rfl⟩)⟩;intro i o hi;cases i with
      |l j=>cases hi
      |o j=>
       have hjq:j≠q:=by rintro rfl;have h5:=hi;simp only[St.get]at h5;rw[h2]at h5;cases h5
       have h4:=h3 j hjq;show (bif Nat.beq j q then some AObj.dead else _)=some o;rw[Q0d hjq];exact h4.trans hi
    |[_,_]=>obtain⟨rfl,rfl⟩:=h;cases hi;cases ho;exact⟨rfl,.inl (.inl ⟨_,_,Quk tabOk rfl,rfl,rfl,rfl⟩)⟩
    |[_,_,_]=>obtain⟨rfl,rfl,rfl⟩:=h;cases hi;cases ho;exact⟨rfl,.inl (.inl ⟨_,_,Qws rfl rfl,rfl,rfl,rfl,rfl⟩)⟩
    |_::_::_::_::_=>cases hi
   ·intro vs σ hl h
    match vs with
    |[a,_,_,_]=>
     obtain⟨rfl,rfl,rfl,rfl⟩:=h;refine Qv3 hΓ rfl rfl rfl rfl rfl rfl rfl ⟨trivial,⟨by simp,hei,hDi,hk2i,trivial⟩,trivial⟩ hou hkd fun r ou2 hq _ how=>?_;obtain⟨rfl,H',nm',m2,hx2,hmo,hM2⟩:=hq;cases hx2;refine zA ?_;exact cInv ⟨g,(ou2,H',nm',m'),_root_.id,by omega,⟨⟨hM2.ex⟩,Z1z,hgo,by dsimp only;omega,Z16⟩,Z39 rfl zFW zsy zLO rfl rfl how⟩
    |[]|[_]|[_,_]|[_,_,_]=>cases hl
    |_::_::_::_::_::_=>exact h.elim
end
structure FragL (hi:Bool)(l:Lab):Prop where
 sh:shpQ l
 op:(0<=l.op/\l.op<=8∨l.op=17)∨hi=true/\(l.op=12∨l.op=13)
 pr:l.op=8->l.n=0∨l.n=1∨l.n=2∨l.n=5∨l.n=6∨l.n=7
 bl:l.binds.length<=1048576
 al:l.alts.length<=1048576
 ab:∀a∈l.alts,a.binds.length<=1048576
 kl:l.ops.length<=1048576
 wd:l.op=1->inW l.n
 rc:l.op=5->∀i,i < l.binds.length->l.ops[i]?=some 2
def G1 (hi:Bool):GP:={ p:=FragL hi,S:=fun _=>True,W:=inW,fns:=[],R:=hi=true }
theorem Qrp{b:Int}(ha:inW a)(hb:inW b):inW (a.tmod b):=by
 have h1:(a.tmod b).natAbs<=a.natAbs:=by rw[Int.natAbs_tmod];exact Nat.mod_le _ _
 unfold inW at *;have h2:-1073741824<=a.tmod b:=by
  rcases Int.le_total 0 a with h|h
  ·have:=Int.tmod_nonneg b h;omega
  ·omega
 have h3:a.tmod b<=1073741823:=by
  rcases Int.le_total 0 a with h|h
  ·omega
  ·have h4:a.tmod b=-((-a).tmod b):=by rw[Int.neg_tmod];omega
   have:=Int.tmod_nonneg b (show 0<=-a by omega);omega
 exact⟨h2,h3⟩
theorem G1ok(hi:Bool):GPok (G1 hi) where
 sh:=fun l h=>h.sh
 bnd:=fun _ _ _ _=>trivial
 wd:=fun l h h1=>h.wd h1
 rc:=fun l h h1=>h.rc h1
 wr:=fun n=>by show inW (Q5t n);unfold inW Q5t;omega
 wl:=fun n h0 h1=>by show inW n;unfold inW;omega
 wm:=fun a b ha hb=>Qrp ha hb
 fn:=fun f hf=>by cases hf
 cl:=fun l h ho=>by exfalso;rcases h.op with h1|⟨_,h1⟩ <;> omega
 rs:=fun l h ho=>by
  rcases h.op with h1|⟨h1,_⟩
  ·omega
  ·exact h1
theorem G1opn{t:Tr}(h:allT (G1 hi).p t):opdN t<=1048576:=by have F:FragL hi ⟨t.op,t.n,t.binds,t.kids.map Tr.op,t.alts⟩:=Q2f h;have:=F.kl;simp at this;unfold opdN;split <;> omega
section
variable {fu:Int}{ac:AC}
structure MoreC (hi:Bool)(fu:Int)(ac:AC)(Γ:List (Nat×List AC)):Prop where
 res:hi=true->∀(ou:Q03) (H:Hm) (nm:Nm2) (m:Ms) (k fs:List Fm) (kc tc0 ec0 vc0:AC) (kt:Nat) (vc:AC) (a:Vl) (c:AC),M0 fu ⟨ac,kt⟩ ou H nm m tc0 ec0 vc0 kc->KR H nm k kc->VR H nm (.res fs) vc->VR H nm a c->gFs (G1 hi) fs->(fs++k).length<=1048576->
  AFn Tryz.prog Γ 139 [.one (.ptr (.o 0) 0),.one vc,.one (.sl 1 [[c]])] ou (StQ fu ⟨ac,kt⟩ H nm (.ok { m with c:=.rt a,k:=fs++k }))
 kid:hi=true->∀(ou:Q03) (H:Hm) (nm:Nm2) (m m':Ms) (t:Tr) (e:En) (d:List Vl) (k:List Fm) (ec kc tc0 ec0 vc0 kc0:AC) (dc:List (List AC)) (kt:Nat),M0 fu ⟨ac,kt⟩ ou H nm m tc0 ec0 vc0 kc0->ER H nm e ec->VsR H nm d dc->KR H nm k kc->
  allT (FragL hi) t->gFs (G1 hi) k->k.length<=1048576->d.length=1->t.op=12∨t.op=13->kidM fu [] m (.mk t e d) k=.ok m'->AFn Tryz.prog Γ 111 [.one (.ptr (.o 0) 0),.one (.box [.box (cTr t),ec,.sl 1 dc,kc])] ou (StQ fu ⟨ac,kt⟩ H nm (.ok m'))
theorem MoreC.no{fu:Int}{ac:AC}:MoreC false fu ac Γ:=⟨(fun h=>by cases h),(fun h=>by cases h)⟩
theorem Qsx(h:l.length=1):∃a,l=[a]:=by
 match l,h with
 |[a],_=>exact⟨a,rfl⟩
theorem list2(h:l.length=2):∃a b,l=[a,b]:=by
 match l,h with
 |[a,b],_=>exact⟨a,b,rfl⟩
theorem Qif{v:Vl}{n:Int}(h:Q4k v=.ok n):v=.word n:=by
 cases v with
 |word m=>cases h;rfl
 |_=>cases h
theorem Qma{m m':Ms}{n:Int}{a b v:Vl}(hn:n=0∨n=1∨n=2∨n=5∨n=6)(h:Q84 fu m n [a,b]=.ok (m',v)):∃x y,a=.word x/\b=.word y:=by
 cases hx:Q4k a with
 |error c=>
  exfalso;rcases hn with rfl|rfl|rfl|rfl|rfl <;> simp[Q84,hx,bind,Except.bind]at h
 |ok x=>
  cases hy:Q4k b with
  |error c=>
   exfalso;rcases hn with rfl|rfl|rfl|rfl|rfl <;> simp[Q84,hx,hy,bind,Except.bind]at h
  |ok y=>exact⟨x,y,Qif hx,Qif hy⟩
theorem kidC(hΓ:GI Γ)(hac:ac.ids isO)(hmore:MoreC hi fu ac Γ):KidC fu ac (G1 hi) Γ:=by
 intro ou H nm m m' t e d k ec kc tc0 ec0 vc0 kc0 dc kt h0 he hd hk ht hge hgd hle hn hgk hkb hol hx hnx;have F:FragL hi ⟨t.op,t.n,t.binds,t.kids.map Tr.op,t.alts⟩:=Q2f ht;have hsh:=g_sh (G1ok hi) ht;have hopk:=g_opN (G1ok hi) ht;have hfc:(FcT.mk ac kt).ids isO:=hac;have hx0:kidM fu [] m (.mk t e d) k=.ok m':=hx;by_cases hlt:d.length < opdN t
 ·obtain⟨s,hs⟩:=Q02 (Z6d hlt hopk);have:=Qy6 (Qt2 (fns:=[]) hΓ h0 hfc he hd hk hlt hs) hx0;rwa [hx0]at this
 have hl:d.length=opdN t:=by omega
 have hnl:¬(Fm.mk t e d).done.length < opdN (Fm.mk t e d).t:=hlt;obtain⟨o,n,b,ks,al⟩:=t;simp only[Tr.op,Tr.n,Tr.binds,Tr.kids,Tr.alts]at F hsh;have hops:o=3∨o=4∨o=6∨o=7∨o=8∨(hi=true/\(o=12∨o=13)):=by
  have h1:=F.op;unfold nLf at hn;simp only[Tr.op]at hn;simp only at h1;rcases h1 with h1|h1
  ·have:o=3∨o=4∨o=6∨o=7∨o=8:=by omega
   rcases this with h|h|h|h|h <;> simp[h]
  ·exact .inr (.inr (.inr (.inr (.inr h1))))
 rcases hops with rfl|rfl|rfl|rfl|rfl|⟨hhi,h12⟩
 ·
  have Z15:opdN (.mk 3 n b ks al)=ks.length:=rfl;have hkl:=hsh.app.1;rw[Z15]at hl
  match d,hd,hl with
  |[],_,hl=>simp at hl;omega
  |v0::ds,hd,hl=>
   obtain⟨c0,dcs,rfl,hv0,hds⟩:=hd.consE;have hcm:Qd4 [] { m with k:=k } v0 ds=.ok m':=by unfold kidM at hx0;rw[if_neg hnl]at hx0;exact hx0
   refine kid_app hΓ h0 hfc he hv0 hds hk (by simpa using hl) rfl (fun ou' h0'=>?_);have hno:(∀t e,v0≠.clo t e)->(∀fs,v0≠.res fs)->False:=fun h1 h2=>by
    cases v0 with
    |clo t e=>exact h1 _ _ rfl
    |res fs=>exact h2 _ rfl
    |cap n s=>exact absurd hgd.1.1.2 (by show ¬(n < 0);have:=hgd.1.1.1;omega)
    |_=>cases hcm
   cases v0 with
   |clo t' e'=>
    obtain⟨g1,g2,g3⟩:=hgd.1;have F':FragL hi ⟨t'.op,t'.n,t'.binds,t'.kids.map Tr.op,t'.alts⟩:=Q2f g2;have hsh':=g_sh (G1ok hi) g2;rw[g1]at hsh';obtain⟨s,hs⟩:=Q02 (l:=t'.kids) (i:=0) (by have:=hsh'.lam.1;omega);cases hv0 with
    |clo _ _ c he'=>
     have hco:Qer fu ⟨ac,kt⟩ [] ou' H nm m k (.clo t' e') (iB tClo [.box (cTr t'),c]) ds dcs Γ:=Qtp hΓ h0' hfc hk he' hds hs F'.bl;have:=Qy6 hco hcm;rwa [hcm]at this
    |cloP _ _ c q hq he'=>
     have hco:Qer fu ⟨ac,kt⟩ [] ou' H nm m k (.clo t' e') (.ifc tClo false [.ptr (.o q) 0]) ds dcs Γ:=Qr0 hΓ h0' hfc hk hq he' hds hs F'.bl;have:=Qy6 hco hcm;rwa [hcm]at this
   |res fs=>
    have hR:hi=true:=hgd.1.1
    match ds,hds,hcm with
    |[a],hds,hcm=>
     obtain⟨c,ds2,rfl,hva,hnil⟩:=hds.consE;have hz:=hnil.nilE;subst hz;cases hcm;exact hmore.res hR ou' H nm m k fs kc tc0 ec0 vc0 kt _ a c h0' hk hv0 hva hgd.1.2 (hnx hR)
    |[],_,hcm=>cases hcm
    |_::_::_,_,hcm=>cases hcm
   |_=>exact (hno zsy zsy).elim
 ·
  obtain⟨v,rfl⟩:=Qsx (l:=d) hl;obtain⟨hk2,hb1,_⟩:=hsh.lett;obtain⟨id,rfl⟩:=Qsx hb1;obtain⟨s0,s1,rfl⟩:=list2 hk2;have:=Qy6 (kid_let (fns:=[]) (t:=.mk 4 n [id] [s0,s1] al) (s:=s1) (id:=id) hΓ h0 hfc he hd hk (v:=v) rfl rfl rfl rfl) hx0;rwa [hx0]at this
 ·
  have hp:({ m with k:=k,c:=.rt (.obj n d) }:Ms)=m':=by unfold kidM at hx0;rw[if_neg hnl]at hx0;cases hx0;rfl
  subst hp;exact Qhc hΓ h0 hfc he hd hk hl (by simp[Tr.op]) fun ou' h0'=>Qoo hΓ h0' hd rfl
 ·
  obtain⟨v,rfl⟩:=Qsx (l:=d) hl;have hcm:Q4e { m with k:=k } (.mk 7 n b ks al) e v=.ok m':=by unfold kidM at hx0;rw[if_neg hnl]at hx0;exact hx0
  refine Qt3 hΓ h0 hfc he hd hk rfl rfl (fun ou' h0'=>?_);have:=Qy6 (Qqy (t:=.mk 7 n b ks al) hΓ h0' hfc he hd hk (v:=v) rfl hsh.case.1 F.al F.ab kc hk.ids) hcm;rwa [hcm]at this
 ·
  have hpn:=hsh.prim;have Z15:opdN (.mk 8 n b ks al)=ks.length:=rfl;rw[Z15]at hl;have hpm:(Q6b fu { m with k:=k } (.mk 8 n b ks al) d).map (fun (m',v)=>{ m' with c:=.rt v })=.ok m':=by unfold kidM at hx0;rw[if_neg hnl]at hx0;exact hx0
  have hpm2:Q6b fu { m with k:=k } (.mk 8 n b ks al) d=Q84 fu { m with k:=k } n d:=rfl;rw[hpm2]at hpm;cases hpr:Q84 fu { m with k:=k } n d with
  |error c=>rw[hpr]at hpm;cases hpm
  |ok mv=>
   obtain⟨m1,v⟩:=mv;rw[hpr]at hpm;cases hpm;have hpk:=(Q6n (fu:=fu) (m:={ m with k:=k }) (t:=.mk 8 n b ks al) (l:=d) (m':=m1) (v:=v) hpr).2.2;have hfin:({ m1 with c:=.rt v }:Ms)={ m1 with c:=.rt v,k:=k }:=by cases m1;simp only at hpk;rw[hpk]
   show AFn Tryz.prog Γ 111 _ ou (StQ fu ⟨ac,kt⟩ H nm (.ok { m1 with c:=.rt v }));rw[hfin];refine Qhc hΓ h0 hfc he hd hk hl (by simp[Tr.op]) fun ou' h0'=>Qmc hΓ hd rfl ?_;rcases F.pr rfl with hn2|hn2|hn2|hn2|hn2|h7;iterate 5
    ·have hn5:n=0∨n=1∨n=2∨n=5∨n=6:=by simp only at hn2;omega
     have hk2:ks.length=2:=by have:=hpn.2.2.1;simp only at hn2;subst hn2;simp[Q74]at this;omega
     obtain⟨x0,y0,rfl⟩:=list2 (l:=d) zoy;obtain⟨x,y,rfl,rfl⟩:=Qma hn5 hpr;obtain⟨c0,d1,rfl,hv0,hd1⟩:=hd.consE;obtain⟨c1,d2,rfl,hv1,hd2⟩:=hd1.consE;have hz:=hd2.nilE;subst hz;have e0:=hv0.wordE;have e1:=hv1.wordE;subst e0;subst e1;obtain⟨hm1,c,hvc,hpa⟩:=Qs6 (Γ:=Γ) (H:=H) (nm:=nm) hΓ hn5 hgd.1 hgd.2.1 hpr ou';subst hm1;refine AFn.mono hpa fun r ou2 hq=>?_;obtain⟨rfl,rfl⟩:=hq;exact⟨kt,H,nm,c,rfl,.refl _ _,hvc,⟨h0'.ids,h0'.m0,h0'.w⟩⟩
   ·simp only at h7;subst h7;have hk1:ks.length=1:=by have:=hpn.2.2.1;simp[Q74]at this;omega
    obtain⟨x0,rfl⟩:=Qsx (l:=d) zoy;cases hx1:Q4k x0 with
    |error c=>simp[Q84,hx1,bind,Except.bind]at hpr
    |ok a=>
     have e0:=Qif hx1;subst e0;simp only[Q84,Q4k,Z41,bind,Except.bind,pure,Except.pure,if_true,if_neg (show ¬(7:Int)=0 by decide),if_neg (show ¬(7:Int)=1 by decide),if_neg (show ¬(7:Int)=2 by decide),if_neg (show ¬(7:Int)=3 by decide),if_neg (show ¬(7:Int)=4 by decide),if_neg (show ¬(7:Int)=5 by decide),if_neg (show ¬(7:Int)=6 by decide)]at hpr;split at hpr
     ·cases hpr
     rename_i hne;cases hpr;obtain⟨c0,d1,rfl,hv0,hd1⟩:=hd.consE;have hz:=hd1.nilE;subst hz;have e0:=hv0.wordE;subst e0;refine AFn.mono (Qmb hΓ h0' hfc a hol hne) fun r ou2 hq=>?_;obtain⟨kt2,H1,nm1,c,q1,q2,q3,q4⟩:=hq;exact⟨kt2,H1,nm1,c,q1,q2,q3,⟨q4.ids,q4.m0,q4.w⟩⟩
 ·
  have hl1:d.length=1:=by rw[hl];exact if_pos (show o=4∨o=7∨o=13∨o=12 by omega)
  exact hmore.kid hhi ou H nm m m' _ e d k ec kc tc0 ec0 vc0 kc0 dc kt h0 he hd hk ht hgk (hkb hhi) hl1 h12 hx0
theorem startC(hΓ:GI Γ)(hac:ac.ids isO)(hk:KidC fu ac (G1 hi) Γ):StartC fu ac (G1 hi) Γ:=by
 intro ou H nm m m' t e ec vc kc kt h0 he hkr ht hge hgk hkb hol hx hnx;have F:FragL hi ⟨t.op,t.n,t.binds,t.kids.map Tr.op,t.alts⟩:=Q2f ht;have hsh:=g_sh (G1ok hi) ht;have hfc:(FcT.mk ac kt).ids isO:=hac;have hx0:Q3w fu [] m t e=.ok m':=hx;by_cases e0:t.op=0
 ·have:=Qo0 hΓ h0 hfc he hkr e0;unfold Q3w at hx0;rw[if_pos e0]at hx0;cases hx0;exact this
 by_cases e1:t.op=1
 ·have:=Qo4 hΓ h0 hfc hkr e1;unfold Q3w at hx0;rw[if_neg e0,if_pos e1]at hx0;cases hx0;exact this
 by_cases e2:t.op=2
 ·have:=Qo3 hΓ h0 hfc he hkr e2;unfold Q3w at hx0;rw[if_neg e0,if_neg e1,if_pos e2]at hx0;cases hx0;exact this
 by_cases e17:t.op=17
 ·unfold Q3w at hx0;rw[if_neg e0,if_neg e1,if_neg e2,if_pos e17]at hx0;cases hx0
 by_cases e5:t.op=5
 ·rw[e5]at hsh;have:=Qo1 hΓ h0 hfc he hkr e5 hsh.recs.1 F.bl;unfold Q3w at hx0;rw[if_neg e0,if_neg e1,if_neg e2,if_neg e17,if_pos e5]at hx0;cases hx0;exact this
 ·have hx1:kidM fu [] m (.mk t e []) m.k=.ok m':=by unfold Q3w at hx0;rw[if_neg e0,if_neg e1,if_neg e2,if_neg e17,if_neg e5]at hx0;exact hx0
  have hnl:nLf t.op:=fun h=>by rcases h with h|h|h|h|h <;> contradiction
  exact Qo5 hΓ h0 he hkr hnl (hk ou H nm m m' t e [] m.k ec kc _ _ _ _ [] kt h0 he .nil hkr ht hge trivial (Z6m _) hnl hgk hkb hol hx1 hnx)
end
theorem idle_ok(a b c d:Value)(w:World):CallsD Tryz.prog 79 #[a,b,c,d] .returning w fun e u' w'=>(∃v,e=.returned v)/\u'=.returning/\w'=w:=by refine callsD_of_wpS Tryz.func79 rfl fun c₀ cs hu=>?_;apply wpS_seq;apply wpS_region;simp[wpOpsS,go_sem,recoverD,hu,Tryz.ntmps79,Exit.thenS];apply wpS_seq;apply wpS_region;simp[wpOpsS,go_sem,recoverD,hu,Exit.thenS];refine wpS_cond (t:=false) (by simp[Act.eval,Array.replicate]) ?_;simp only[Z2y,if_false];refine wpS_of_wp (wp_skip ?_);cases c₀;simp_all[bodyPostS,results,Tryz.results79]
section
variable {fu:Int}{ac:AC}{G:GP}
theorem Qrn(hΓ:GI Γ){mf:Ms}{vf:Vl}
  (hrun:AFn Tryz.prog Γ 80 [.one (.ptr (.o 0) 0)] ou (fun r ou'=>r=.one (.lit (.bool true))/\mf.c=.rt vf/\mf.k=[]/\∃H' nm',MR fu ⟨ac,kt0⟩ ou' H' nm' mf)):
  AFn Tryz.prog Γ 39 [.one (.ptr (.o 0) 0)] ou (fun r ou'=>r=.tup [.agg [.sl 1 (mf.out.map cI),int 0,int (Qfk vf)],.one (int mf.steps),.one (int 0)]):=by
 refine Qxg (gd:=79) (d5:=5) (first:=[]) (caps:=[.ptr (.l 0) 0,.ptr (.l 1) 0,.ptr (.l 2) 0,.ptr (.l 3) 0]) (fr1:=[(4,.one (.ptr (.l 3) 0)),(3,.one (.ptr (.l 2) 0)),(2,.one (.ptr (.l 1) 0)),(1,.one (.ptr (.l 0) 0)),(0,.one (.ptr (.o 0) 0))])
  (σ1:=⟨4,[(3,.cells [int 0]),(2,.cells [int 0]),(1,.cells [.lit (.slice none 0 0),int 0,int 0]),(0,.cells [.ptr (.o 0) 0])],ou⟩)
  tabOk Tryz.func39 rfl zky zdy ?_ rfl rfl zdy (Quk tabOk rfl) rfl rfl rfl ?_ ?_
 ·intro hou;refine zA ?_;exact⟨rfl,rfl,rfl⟩
 ·intro us w;refine⟨?_,fun hs=>?_⟩
  ·simp[callFunc,Tryz.func79,Tryz.f79]
  ·obtain⟨l⟩:=us
   match l,hs with
   |[a,b,c,d],_=>exact idle_ok a b c d w
 ·intro hou ds;refine zA ?_;refine Qv3 hΓ rfl rfl rfl rfl rfl rfl rfl ⟨trivial,trivial⟩ hou hrun fun r ou' hq _ how=>?_;obtain⟨rfl,hc,hk,H',nm',hM⟩:=hq;obtain⟨kt,tc,ec,vc,kc,hCR,hKR,h0⟩:=hM.ex;rw[hc]at hCR;cases hCR with
  |rt _ ec vc hv=>
   have hvi:=hv.ids;have hoX:=h0.ouX;rw[hoX]at how ⊢;refine zA ?_;refine Q00.drawSt tabOk 15 14 [(8,.one (int (Qfk vf)))] _ follows zky rfl rfl zky rfl ?_ rfl rfl rfl rfl ?_ ?_ (Qul tabOk rfl) ?_
   ·rfl
   ·exact⟨⟨_,rfl,Quq hΓ rfl rfl rfl ⟨hvi,trivial⟩ how (Qpj hv)⟩,trivial⟩
   ·exact⟨⟨_,rfl,Quq hΓ rfl rfl rfl ⟨hvi,trivial⟩ how (Qpj hv)⟩,trivial⟩
   refine zA ?_;exact Qwm rfl (WkF.tup (.cons (.agg (.cons (.gsE rfl) (.cons (.refl _) (.cons (.refl _) .nil)))) (.cons (.refl _) (.cons (.refl _) .nil)))) zsy how rfl
end
abbrev nilS:AC:=.lit (.slice none 0 0)
structure RunsTo (hi:Bool)(fu:Int)(e:List Ex)(mf:Ms)(vf:Vl):Prop where
 chk:check e=0
 frag:allT (FragL hi) (grow e)
 fu0:1<=fu/\fu<=1000000
 go:∃g,goX fu [] g ⟨.ev (grow e) .nil,[],[],0,[]⟩=some (.done mf vf)/\(hi=true->bndX fu [] g ⟨.ev (grow e) .nil,[],[],0,[]⟩=true)
 out:mf.out.length<=1000
 st:mf.steps<=fu
theorem MR_init(t:Tr)(fu:Int):MR fu ⟨nilS,1⟩ (ouOf [.cells (mC (.box (cTr t)) Q2b (.lit .nilIface) Q2b [] 0 fu ⟨nilS,1⟩),.tok 3 1 0]) (fun _=>none) [] ⟨.ev t .nil,[],[],0,[]⟩:=by
 refine⟨⟨1,_,_,_,_,.ev t .nil Q2b (.lit .nilIface) .nil,.nil,⟨⟨by simp,trivial,trivial,trivial⟩,rfl,⟨fun k cs hk=>(by cases hk),fun k o hk=>?_,rfl,fun a k n h=>(by simp at h),fun a k n h=>rfl,fun a b k n n' h=>(by simp at h),⟨rfl,fun a k n h=>(by simp at h)⟩,fun cs hc es i hi=>?_,fun k o hk=>?_⟩⟩⟩⟩
 ·match k,hk with
  |0,hk=>cases hk;exact⟨by simp,trivial,trivial,trivial,⟨trivial,trivial⟩,trivial,trivial,trivial,trivial⟩
  |1,hk=>cases hk;trivial
  |k+2,hk=>simp[ouOf]at hk
 ·cases hc;cases hi;exact⟨1,rfl,Z6b _,rfl,rfl,fun a k n h=>by simp at h⟩
 ·match k,hk with
  |0,hk=>cases hk;trivial
  |1,hk=>cases hk;trivial
  |k+2,hk=>simp[ouOf]at hk
theorem Run_ok{e:List Ex}{mf:Ms}{vf:Vl}(hm:MoreC hi fu nilS Γc)(he:okB e)(h:RunsTo hi fu e mf vf):
  Q09 Tryz.prog Γc 15 [.one (.sl 5 (e.map cEx)),.one (int fu)] (.tup [.agg [.sl 1 (mf.out.map cI),int 0,int (Qfk vf)],.one (int mf.steps),.one (int 0)]):=by
 have t1:=Q1j h.chk;have c1:=Q66 e he;rw[h.chk]at c1;obtain⟨g,hg,hgb⟩:=h.go;have hM0:=MR_init (grow e) fu;have hkc:=kidC hΓc (fu:=fu) (ac:=nilS) trivial hm;have hsc:=startC hΓc (fu:=fu) (ac:=nilS) trivial hkc;have hgm:gM (G1 hi) ⟨.ev (grow e) .nil,[],[],0,[]⟩:=⟨⟨h.frag,trivial⟩,trivial,fun r hr=>by cases hr⟩;have hrun:=run_ok hΓc (ac:=nilS) trivial (G1ok hi) (fun t ht=>G1opn ht) hkc hsc hM0 hgm hg hgb h.out ⟨by have:=h.fu0;omega,h.fu0.2⟩ zsy h.st;have hwh0:=Qrn (ac:=nilS) (kt0:=1) hΓc hrun;have hwh:AFn Tryz.prog Γc 39 [.one (.ptr (.o 0) 0)] (ouOf [.cells (mC (.box (cTr (grow e))) Q2b (.lit .nilIface) Q2b [] 0 fu ⟨nilS,1⟩),.tok 3 1 0]) (fun r ou'=>r=.tup [.agg [.sl 1 (mf.out.map cI),int 0,int (Qfk vf)],.one (int mf.steps),.one (int 0)]/\ou'=ouOf [.dead,.dead]):=by
  refine Qxi (AFn.mono hwh0 fun r ou' hq=>⟨ouOf [.dead,.dead],fun m o hmo=>?_,hq,rfl⟩)
  match m,hmo with
  |0,hmo=>cases hmo;exact .inr ⟨rfl,_,rfl⟩
  |1,hmo=>cases hmo;exact .inr ⟨rfl,_,rfl⟩
  |m+2,hmo=>simp[ouOf]at hmo
 intro ou;refine zwk 30 Tryz.func15 fun hou=>?_;refine zA ?_;refine zca hΓc c1 hou ?_;refine zA ?_;have hf1:decide (fu < 1)=false:=by have:=h.fu0;simp;omega
 have hf2:decide (fu > 1000000)=false:=by have:=h.fu0;simp;omega
 refine Z2n 16 rfl (y:=.one (.lit (.bool false))) (.ofEq (by show FV.one (.lit (.bool (decide (fu < 1))))=_;rw[hf1])) ?_;refine zM ?_;refine Q00.cond rfl (fun hb=>absurd (show 1000000 < fu by simpa using hb) (by have:=h.fu0;omega)) (fun _=>?_);refine zM ?_;refine zca hΓc (Qgd hΓc e he.eo t1.k t1.ne) hou ?_;repeat ((fail_if_success ((with_reducible refine oj ?_);refine Qxs 26 rfl ?_));first|refine zO ?_)
 refine Qxh 1 4 3 1 rfl rfl ?_;refine Qvl [.l 1,.l 2] [.one (.ptr (.o 0) 0)] [.cells (mC (.box (cTr (grow e))) Q2b (.lit .nilIface) Q2b [] 0 fu ⟨nilS,1⟩),.tok 3 1 0] hΓcF rfl rfl rfl rfl rfl rfl ?_ ?_ ?_ ?_ ?_ hwh ?_
 ·rfl
 ·simp[inO]
 ·simp
 ·refine⟨?_,rfl,trivial⟩;simp only[AObj.sub,mC,subL,AC.sub,nameOf,Z4x,subS];rw[Q2q _ _ zsy];rfl
 ·simp[inO,mC]
 intro r ou' hq;obtain⟨rfl,rfl⟩:=hq;refine⟨[.dead,.dead],rfl,rfl,by simp,by simp,?_⟩;rw[show FV.sub (nameOf [.l 1,.l 2]) (.tup [.agg [.sl 1 (mf.out.map cI),int 0,int (Qfk vf)],.one (int mf.steps),.one (int 0)])=.tup [.agg [.sl 1 (mf.out.map cI),int 0,int (Qfk vf)],.one (int mf.steps),.one (int 0)]from FV.sub_pure _ _ zsy];refine zA ?_;exact Q09.fin rfl (Z7h rfl) zsy hou rfl
def Qte (hi:Bool)(l:Lab):Bool:=
 Go.CoreX.shape ⟨l.op,l.n,l.binds,l.ops,l.alts⟩&&((decide (0<=l.op)&&decide (l.op<=8)||decide (l.op=17))||(hi&&(decide (l.op=12)||decide (l.op=13))))&&(!(decide (l.op=8))||(decide (l.n=0)||decide (l.n=1)||decide (l.n=2)||decide (l.n=5)||decide (l.n=6)||decide (l.n=7))) &&
 decide (l.binds.length<=1048576)&&decide (l.alts.length<=1048576)&&(l.alts.all fun a=>decide (a.binds.length<=1048576))&&decide (l.ops.length<=1048576)&&(!(decide (l.op=1))||(decide (-1073741824<=l.n)&&decide (l.n<=1073741823)))&&(!(decide (l.op=5))||(l.ops.take l.binds.length==List.replicate l.binds.length 2))
theorem Qll{l:Lab}(h:Qte hi l=true):FragL hi l:=by
 unfold Qte at h;simp only[Z2w,Z34,Z31,decide_eq_true_eq,decide_eq_false_iff_not,Z3b,beq_iff_eq]at h;obtain⟨⟨⟨⟨⟨⟨⟨⟨h1,h2⟩,h3⟩,h4⟩,h5⟩,h6⟩,h7⟩,h8⟩,h9⟩:=h;refine⟨shpQ_of h1,?_,fun h=>?_,h4,h5,h6,h7,fun h=>?_,fun h i hi=>?_⟩
 ·rcases h2 with h2|⟨h2,h3⟩
  ·exact .inl h2
  ·exact .inr ⟨h2,h3⟩
 ·rcases h3 with h3|h3
  ·exact absurd h h3
  ·omega
 ·rcases h8 with h8|h8
  ·exact absurd h h8
  ·exact h8
 ·rcases h9 with h9|h9
  ·exact absurd h h9
  ·have:=congrArg (fun r=>r[i]?) h9;simp only[Z4d hi,Z4b,if_pos hi]at this;exact this
theorem Qqg{n:Int}(h:inW n):allT (FragL hi) (tW n):=by refine⟨Qll ?_,trivial⟩;unfold inW at h;simp[Qte,Go.CoreX.shape,wants,h.1,h.2]
theorem A_ok(op:Int)(al:List Alt)(ks:List Tr):Q09 Tryz.prog Γ 12 [.one (int op),.one (.sl 2 (al.map cAlt)),.one (.sl 1 (Q4j ks))] (.one (.box (cNd (.mk op 0 [] ks al)))):=by
 intro ou;refine zwk 13 Tryz.func12 fun hou=>?_;iterate 14 (refine zO ?_)
 refine Z2l (.l 0) 6 rfl rfl ?_;refine zA ?_;refine Q09.fin rfl (.one (Z7g ?_)) zsy hou rfl;exact .cons (.refl _) (.cons (.refl _) (.cons (.nilS 1) (.cons (.any _) (.cons (.refl _) (.cons (.refl _) .nil)))))
theorem Qag{H:Type}:∀l:List (DataW H),Rows.uptoBulkAll l=Q56 Rows.uptoBulk l
 |[]=>rfl
 |d::l=>by simp only[Rows.uptoBulkAll,Q56,Z4t,Z5s]at *;rw[Qag l];rfl
theorem Qlv(l:List (DataW H)):Q56 Rows.uptoBulk l+1<=Rows.uptoBulk (.agg l):=by simp only[Rows.uptoBulk,Qag];omega
theorem Qnh(l r:List (DataW H)):Q56 Rows.uptoBulk l+1<=Rows.uptoBulk (.slice l r):=by simp only[Rows.uptoBulk,Qag];omega
theorem Qts:1<=Rows.uptoBulk (DataW.nil:DataW H):=by simp[Rows.uptoBulk]
section
variable {H:Type}{enc:TypeId×Value->H}{w:World}
abbrev I64:={i:Int // IntKind.i64.min<=i/\i<=IntKind.i64.max}
theorem Q8r(n:Nat):Q3u enc Tryz.prog w Rows.uptoBulk 3 n (fun i:I64=>[int i.1]) (fun _=>1):=by intro cs x h;obtain⟨i,rfl,rfl,hw⟩:=DataW.trod_int Z7d h;refine⟨⟨i,?_⟩,⟨_,_,rfl,⟨rfl,rfl⟩,rfl⟩,by simp[Rows.uptoBulk]⟩;simpa[Lit.wf]using hw
theorem Q86{t e:TypeId}{s:Nat}(ht:Tryz.prog.underlying t=some (.slice e))(hs:Tryz.prog.cellsOf e=s)(h0:0 < s){c:α->List AC}{wt:α->Nat}(n:Nat)(he:∀m,m < n->Q3u enc Tryz.prog w Rows.uptoBulk e m c wt):
  Q3u enc Tryz.prog w Rows.uptoBulk t n (fun l:List α=>[.sl s (l.map c)]) (fun l=>Qbr wt l+1):=by
 cases n with
 |zero=>exact Q3u.zero
 |succ n=>exact Q3u.slice Qnh Qts ht hs h0 (he n zoy)
theorem wt_one(l:List α):Qbr (fun _=>1) l=l.length:=by
 unfold Qbr
 induction l with
 |nil=>rfl
 |cons a l ih=>simp only[Z4t,Z5s,Z4h,ih];omega
theorem Q9t(n:Nat):Q3u enc Tryz.prog w Rows.uptoBulk 32 n (fun l:List Int=>[.sl 1 (l.map cI)]) (fun l=>l.length+1):=by
 refine Qvx (Q86 Tryz.underlying32 (s:=1) zky zoy n (fun m _=>Q8r m)) fun l=>⟨l.map (·.1),?_,?_⟩
 ·simp only[Z4w];rfl
 ·rw[wt_one];simp
def bAlt (a:Alt):Nat:=a.binds.length+3
def Qi5 (l:List Alt):Nat:=(l.map bAlt).sum
def bEx (x:Ex):Nat:=x.binds.length+x.kids.length+Qi5 x.alts+6
def bExs (l:List Ex):Nat:=(l.map bEx).sum
theorem Qsb(n:Nat):Q3u enc Tryz.prog w Rows.uptoBulk 51 n cAlt bAlt:=by
 cases n with
 |zero=>exact Q3u.zero
 |succ n=>
  refine Qvx (Q3u.struct Qlv Tryz.underlying51 (.cons rfl zky (Q8r n) (fun _=>rfl) (.cons rfl zky (Q9t n) (fun _=>rfl) (.nil _))) (fun _=>(show (2:Nat)=_ by kernel_rfl))) ?_;rintro⟨i,l,_⟩;exact⟨⟨i.1,l⟩,rfl,by show l.length+3<=1+(l.length+1+0)+1;omega⟩
theorem opensEx(n:Nat):Q3u enc Tryz.prog w Rows.uptoBulk 62 n cEx bEx:=by
 cases n with
 |zero=>exact Q3u.zero
 |succ n=>
  have ha:=Q86 (enc:=enc) (w:=w) (t:=52) Tryz.underlying52 (s:=2) zky zoy n (fun m _=>Qsb m);refine Qvx (Q3u.struct Qlv Tryz.underlying62 (.cons rfl zky (Q8r n) (fun _=>rfl) (.cons rfl zky (Q8r n) (fun _=>rfl) (.cons rfl zky (Q9t n) (fun _=>rfl) (.cons rfl zky (Q9t n) (fun _=>rfl) (.cons rfl zky ha (fun _=>rfl) (.nil _)))))) (fun _=>(show (5:Nat)=_ by kernel_rfl))) ?_;rintro⟨i,j,b,k,l,_⟩;refine⟨⟨i.1,j.1,b,k,l⟩,rfl,?_⟩;show b.length+k.length+Qi5 l+6<=1+(1+(b.length+1+(k.length+1+(Qbr bAlt l+1+0))))+1;have:Qbr bAlt l=Qi5 l:=rfl;omega
theorem Qsa(n:Nat):Q3u enc Tryz.prog w Rows.uptoBulk 33 n (fun l:List Ex=>[.sl 5 (l.map cEx)]) (fun l=>bExs l+1):=
 Q86 Tryz.underlying33 (s:=5) zky zoy n (fun m _=>opensEx m)
theorem Qs4{t e:TypeId}{base:Nat}{r:Reach}{W:World}(ht:Tryz.prog.underlying t=some (.slice e))(h:Value.okWide Tryz.prog W r base t v)(hr:RV W C [c] v.cells.toList):RF W C (.one c) v:=by obtain⟨a,len,cap,rfl⟩:=WideShapes.okWide_slice ht h;obtain⟨u,us,he,h1,h2⟩:=hr;simp[Value.cells]at he;obtain⟨rfl,rfl⟩:=he;exact h1
end
theorem Qew{α:Type}{f:α->Nat}:∀{l:List α}{a:α},a∈l->f a<=(l.map f).sum
 |b::l,a,h=>by
  simp only[Z4t,Z5s];rcases Z53.1 h with rfl|h
  ·omega
  ·have:=Qew (f:=f) h;omega
theorem Qii{α:Type}{f:α->Nat}(hf:∀a,1<=f a):∀l:List α,l.length<=(l.map f).sum
 |[]=>by simp
 |b::l=>by have h1:=hf b;have h2:=Qii hf l;simp only[Z4t,Z5s,Z4h];omega
theorem Qem:∀l:List Alt,(l.flatMap (·.binds)).length<=Qi5 l
 |[]=>by simp[Qi5]
 |a::l=>by have:=Qem l;simp only[Qi5,bAlt,Z3v,Z4g,Z4t,Z5s]at *;omega
theorem okB_of{e:List Ex}(h:bExs e<=1048576):okB e:=by
 have h1:=Qii (f:=bEx) (fun x=>by simp only[bEx];omega) e;have hx:∀x∈e,bEx x<=1048576:=fun x hx=>by have h2:bEx x<=bExs e:=Qew hx;omega
 have h1':e.length<=bExs e:=h1;refine⟨⟨by omega,fun x hx1=>?_⟩,fun x hx1=>?_⟩
 ·have h2:=hx x hx1;simp only[bEx]at h2;have h3:=Qii (f:=bAlt) (fun a=>by simp only[bAlt];omega) x.alts;have h3':x.alts.length<=Qi5 x.alts:=h3;refine⟨by omega,by omega,by omega,fun a ha=>?_⟩;have h4:bAlt a<=Qi5 x.alts:=Qew ha;simp only[bAlt]at h4;omega
 ·have h2:=hx x hx1;simp only[bEx]at h2;have h3:=Qem x.alts;omega
structure UpdL (ou:Q03)(L:List (Nat×AObj))(ou':Q03)(L':List (Nat×AObj)):Prop where
 own:Owns ou' L'
 nd:(keys L').Nodup
 new:∀k∈keys L',k∈keys L∨ou k=none
 old:∀k,k∉keys L->ou k≠none->ou' k=ou k
 ok:OuOk ou'
theorem UpdL.trans{L L1 L2:List (Nat×AObj)}(h:UpdL ou L ou1 L1)(k:UpdL ou1 L1 ou2 L2):UpdL ou L ou2 L2 where
 own:=k.own
 nd:=k.nd
 new:=fun j hj=>by
  rcases k.new j hj with h1|h1
  ·exact h.new j h1
  ·by_cases h2:j∈keys L
   ·exact .inl h2
   ·refine .inr (Decidable.byContradiction fun h3=>?_);rw[h.old j h2 h3]at h1;exact h3 h1
 old:=fun j hj hn=>by have h1:=h.old j hj hn;have h2:j∉keys L1:=fun h3=>(h.new j h3).elim hj hn;rw[k.old j h2 (by rw[h1];exact hn),h1]
 ok:=k.ok
theorem Q6r{l:List LTr}{t:LTr}(h:l[i]?=some t):(kC l)[i]?=some [.ptr (.o t.id) 0]:=by simp[kC,h]
set_option maxRecDepth 100000
def Qg6:Tr:=.mk 8 0 [] [.mk 3 0 [] [tV 3,tV 2] [],.mk 3 0 [] [tV 3,.mk 8 0 [] [tV 2,tV 2] []] []] []
def Q59:Tr:=.mk 13 0 [] [.mk 8 0 [] [tW 1,.mk 12 5 [] [tW 3] []] [],tV 1,Qg6] [⟨-1,[1]⟩,⟨5,[2,3]⟩]
theorem Qd3:check (Q0c [] Q59)=0:=by decide +kernel
theorem N2(o n:Int)(a b:Tr):Q09 Tryz.prog Γ 10 [.one (int o),.one (int n),.one (.sl 1 [[.box (cNd a)],[.box (cNd b)]])] (.one (.box (cNd (.mk o n [] [a,b] [])))):=by have:=N_ok (Γ:=Γ) o n [a,b];rwa [Q96]at this
theorem Qnu(hΓ:GI Γ)(a b:Tr):Q09 Tryz.prog Γ 82 [.one (.box (cNd a)),.one (.box (cNd b))] (.one (.box (cNd (.mk 8 0 [] [a,b] [])))):=by have hN:=N2 (Γ:=Γ) 8 0 a b;intro ou;refine zwk 9 Tryz.func82 fun hou=>?_;refine zA ?_;refine zca hΓ hN hou ?_;refine zA ?_;exact Q09.fin rfl (Z7h rfl) zsy hou rfl
theorem Qly(hΓ:GI Γ)(a:Tr):Q09 Tryz.prog Γ 83 [.one (.box (cNd a))] (.one (.box (cNd (.mk 3 0 [] [tV 3,a] [])))):=by have hN:=N2 (Γ:=Γ) 3 0 (tV 3) a;intro ou;refine zwk 7 Tryz.func83 fun hou=>?_;refine zA ?_;refine zca hΓ (V_ok hΓ 3) hou ?_;refine zA ?_;refine zca hΓ hN hou ?_;refine zA ?_;exact Q09.fin rfl (Z7h rfl) zsy hou rfl
theorem Qh0:okT Q59:=by simp only[Q59,Qg6,tV,tW,okT,okTs];simp
theorem Qhw:cntN Q59=15:=by simp[Q59,Qg6,tV,tW,cntN,Q1q]
theorem Qrd(hΓ:GI Γ):Q09 Tryz.prog Γ 40 [] (.one (.sl 5 ((Q0c [] Q59).map cEx))):=by have hL:=Qju hΓ Q59 Qh0 (by have:=Q53 Q59 [];rw[Qhw]at this;simp at this;omega);intro ou;refine zwk 31 Tryz.func40 fun hou=>?_;refine zA ?_;refine zca hΓ (V_ok hΓ 2) hou ?_;refine zca hΓ (Qly hΓ (tV 2)) hou ?_;refine zA ?_;refine zca hΓ (V_ok hΓ 2) hou ?_;refine zca hΓ (V_ok hΓ 2) hou ?_;refine zca hΓ (Qnu hΓ (tV 2) (tV 2)) hou ?_;refine zca hΓ (Qly hΓ (.mk 8 0 [] [tV 2,tV 2] [])) hou ?_;refine zca hΓ (Qnu hΓ (.mk 3 0 [] [tV 3,tV 2] []) (.mk 3 0 [] [tV 3,.mk 8 0 [] [tV 2,tV 2] []] [])) hou ?_;refine zA ?_;refine zca hΓ (W_ok hΓ 1) hou ?_;refine zca hΓ (W_ok hΓ 3) hou ?_;refine zA ?_;refine zca hΓ (N_ok (Γ:=Γ) 12 5 [tW 3]) hou ?_;refine zca hΓ (Qnu hΓ (tW 1) (.mk 12 5 [] [tW 3] [])) hou ?_;refine zca hΓ (V_ok hΓ 1) hou ?_;refine zA ?_;refine zca hΓ (A_ok (Γ:=Γ) 13 [⟨-1,[1]⟩,⟨5,[2,3]⟩] [.mk 8 0 [] [tW 1,.mk 12 5 [] [tW 3] []] [],tV 1,Qg6]) hou ?_;refine zca hΓ hL hou ?_;refine zA ?_;exact Q09.fin rfl (Z7h rfl) zsy hou rfl
theorem Qh1:okB (Q0c [] Q59):=Qbe (Qcb _ Qh0) (by rw[Qhw];omega)
end Go.Proofs.YtlmokgooijbcdaaGreatDoor
namespace Go.CoreX
def W1:Tr:=.mk 1 1 [] [] []
inductive LFt where
 |mk (id:Nat) (op n:Int) (kb:Nb) (kids:List LFt)
instance:Inhabited LFt:=⟨.mk 0 0 0 none []⟩
def LFt.id:LFt->Nat|.mk i _ _ _ _=>i
def LFt.n:LFt->Int|.mk _ _ n _ _=>n
def LFt.kids:LFt->List LFt|.mk _ _ _ _ k=>k
mutual
def erFt:LFt->Tr
 |.mk _ o n _ k=>.mk o n [] (Qth k) []
def Qth:List LFt->List Tr
 |[]=>[]
 |t::ts=>erFt t::Qth ts
end
theorem Qlq:∀l:List LFt,Qth l=l.map erFt
 |[]=>rfl
 |t::l=>by simp[Qth,Qlq l]
mutual
def okFt:LFt->Prop
 |.mk _ _ _ kb k=>(kb=none->k=[])/\(∀a c,kb=some (a,c)->k.length<=c)/\k.length<=1048576/\okFts k
def okFts:List LFt->Prop
 |[]=>True
 |t::l=>okFt t/\okFts l
end
theorem Qkt:∀{l:List LFt},(∀t∈l,okFt t)->okFts l
 |[],_=>trivial
 |t::l,h=>⟨h t zsy,Qkt fun u hu=>h u (by simp[hu])⟩
end Go.CoreX
namespace Go.Proofs.YtlmokgooijbcdaaGreatDoor
variable {Γ:List (Nat×List AC)}
def kFt (l:List LFt):List (List AC):=l.map fun t=>[.ptr (.o t.id) 0]
def kcFt:Nb->List (List AC)->AC
 |none,l=>.sl 1 l
 |some (a,cap),l=>.arr (.o a) 1 0 l.length cap
def koFt:Nb->List (List AC)->List (Nat×AObj)
 |none,_=>[]
 |some (a,cap),l=>[(a,.cells (vec 1 l cap))]
def nFt (o n:Int)(kb:Nb)(l:List (List AC)):AObj:=.cells [int o,int n,.sl 1 [],kcFt kb l,.sl 2 []]
mutual
def obFt:LFt->List (Nat×AObj)
 |.mk i o n kb k=>(i,nFt o n kb (kFt k))::(koFt kb (kFt k)++obFts k)
def obFts:List LFt->List (Nat×AObj)
 |[]=>[]
 |t::ts=>obFt t++obFts ts
end
theorem Qj7(p:Abs.Id->Prop)(hp:∀k,p (.o k)):∀l:List LFt,idsS p (kFt l)
 |[]=>trivial
 |t::l=>⟨⟨hp _,trivial⟩,Qj7 p hp l⟩
@[simp] theorem Qpx (l:List LFt):idsS isO (kFt l):=Qj7 _ (fun _=>trivial) l
@[simp] theorem ids_kFt_l (k:Nat) (l:List LFt):idsS (inL k) (kFt l):=Qj7 _ (fun _=>trivial) l
@[simp] theorem ren_kFt (ρ:Nat->Nat) (l:List LFt):renS ρ (kFt l)=kFt l:=Q2r ρ _ (Qpx l)
def ownFt:LFt->List (Nat×AObj)
 |.mk i o n kb k=>koFt kb (kFt k)++[(i,nFt o n kb (kFt k))]
theorem obFt_mem:∀(t:LFt)(p:Nat×AObj),p∈obFt t↔p∈ownFt t∨p∈obFts t.kids
 |.mk i o n kb k,p=>by
  simp only[obFt,ownFt,LFt.kids,Z53,Z50,Z5m,or_false];constructor
  ·rintro (h|h|h) <;> simp[h]
  ·rintro ((h|h)|h) <;> simp[h]
structure LinkF (e:List Ex)(lts:List LFt):Prop where
 len:lts.length=e.length
 at_:∀(i:Nat) (x:Ex),e[i]?=some x->∃id kb,lts[i]?=some (.mk id x.op x.n kb (x.kids.map fun q=>lts.getD q.toNat default))/\(kb=none->x.kids=[])/\∀a c,kb=some (a,c)->x.kids.length<=c
theorem LinkF.nil:LinkF [] []:=⟨rfl,fun i x h=>by simp at h⟩
def noB (e:List Ex):Prop:=∀x∈e,x.binds=[]/\x.alts=[]
section
variable {e:List Ex}{lts:List LFt}
theorem LinkF.getD(h:LinkF e lts){i:Nat}{t:LFt}(ht:lts[i]?=some t):lts.getD i default=t:=by rw[Z42,ht];rfl
theorem LinkF.er(h:LinkF e lts)(hk:Q1d e)(hb:noB e):∀(n i:Nat)(t:LFt),i < n->lts[i]?=some t->erFt t=Q67 e i
 |0,i,t,hi,_=>by omega
 |n+1,i,t,hi,ht=>by
  have hil:i < e.length:=by rw[←h.len];exact (Z49.1 ht).1
  obtain⟨x,hx⟩:=Q02 hil;obtain⟨id,kb,h1,_,_⟩:=h.at_ i x hx;obtain⟨b1,b2⟩:=hb x (Z5c hx);rw[ht]at h1;cases h1;rw[Q5u hk hx,b1,b2];simp only[erFt,Qlq,Z4w];congr 1;refine Z4s fun q hq=>?_;have hq':=hk i x hx q hq;obtain⟨t',ht'⟩:=Q02 (l:=lts) (i:=q.toNat) (by rw[h.len];omega);simp only[Function.comp,h.getD ht'];exact h.er hk hb n q.toNat t' zoy ht'
theorem LinkF.ok(h:LinkF e lts)(hk:Q1d e)(he:okE e):∀(n i:Nat)(t:LFt),i < n->lts[i]?=some t->okFt t
 |0,i,t,hi,_=>by omega
 |n+1,i,t,hi,ht=>by
  have hil:i < e.length:=by rw[←h.len];exact (Z49.1 ht).1
  obtain⟨x,hx⟩:=Q02 hil;obtain⟨id,kb,h1,h2,h3⟩:=h.at_ i x hx;rw[ht]at h1;cases h1;refine⟨fun hn=>by rw[h2 hn];rfl,fun a c hc=>by rw[Z4k];exact h3 a c hc,by rw[Z4k];exact (he.x x (Z5c hx)).k,Qkt fun u hu=>?_⟩;obtain⟨q,hq,rfl⟩:=Z5a.1 hu;have hq':=hk i x hx q hq;obtain⟨t',ht'⟩:=Q02 (l:=lts) (i:=q.toNat) (by rw[h.len];omega);rw[h.getD ht'];exact h.ok hk he n q.toNat t' zoy ht'
end
def Qp3 (ts:List LFt)(n:Nat):List AC:=ts.map (fun t=>.ptr (.o t.id) 0)++List.replicate (n - ts.length) (.lit (.pointer none))
theorem Qe6(p:Abs.Id->Prop)(hp:∀k,p (.o k))(ts:List LFt)(n:Nat):idsL p (Qp3 ts n):=by
 refine Q8y ?_ (Qld p _ _)
 induction ts with
 |nil=>trivial
 |cons t ts ih=>exact⟨hp _,ih⟩
@[simp] theorem ids_nodesF_l (k:Nat) (ts:List LFt) (n:Nat):idsL (inL k) (Qp3 ts n):=Qe6 _ (fun _=>trivial) ts n
@[simp] theorem ids_nodesF_o (ts:List LFt) (n:Nat):idsL isO (Qp3 ts n):=Qe6 _ (fun _=>trivial) ts n
theorem Qyd{v w:AObj}(hk:∀m,k<=m->ou m=none)(hou:OuOk ou)(hv:v.ids isO)(hw:w.ids isO):NewO ou (Q1i ou k [w,v]) [(k+1,v),(k,w)]:=by
 refine⟨fun p hp=>?_,fun j hj=>?_,fun m hm=>?_,Q7f hou fun q hq=>?_,by simp[keys]⟩
 ·simp only[Z53,Z5m,or_false]at hp;rcases hp with rfl|rfl
  ·exact Q10 1
  ·exact Q10 0
 ·simp[keys]at hj;rcases hj with rfl|rfl <;> exact hk _ zoy
 ·simp[keys]at hm;rcases Z6e m k with h1|h1
  ·exact Q1l h1
  ·obtain⟨p,rfl⟩:∃p,m=k+p:=⟨m - k,by omega⟩;rw[Q10,hk _ h1]
   match p,hm with
   |0,hm=>simp at hm
   |1,hm=>simp at hm
   |p+2,hm=>simp
 ·simp only[Z53,Z5m,or_false]at hq;rcases hq with rfl|rfl
  ·exact hw
  ·exact hv
end Go.Proofs.YtlmokgooijbcdaaGreatDoor
namespace Go.CoreX
end Go.CoreX
namespace Go.Proofs.YtlmokgooijbcdaaGreatDoor
variable {Γ:List (Nat×List AC)}
theorem Qsd{t s:LTr}(h:s∈t.kids){p:Nat×AObj}(hp:p∈objs s):p∈Q46 t.kids:=by rw[Qfe];exact Z58.2 ⟨s,h,hp⟩
theorem of_keys{l:List (Nat×AObj)}(h:k∈keys l):∃o,(k,o)∈l:=by obtain⟨⟨j,o⟩,h1,h2⟩:=Z5a.1 h;simp at h2;subst h2;exact⟨o,h1⟩
theorem er_kids(t:LTr):(erT t).kids=t.kids.map erT:=by cases t;simp[erT,LTr.kids,Q2s]
theorem Qlp{t s:LTr}(h:s∈t.kids):erT s∈(erT t).kids:=by rw[er_kids];exact Z5b h
theorem Qkl{t s:LTr}(h:Owns ou (objs t))(hs:s∈t.kids):Owns ou (objs s):=fun p hp=>h p ((Qkw t p).2 (.inr (Qsd hs hp)))
theorem Q50(l:List LTr):(kC l).length=l.length:=by simp[kC]
def plainB (nb:Nb)(l:List Int):Prop:=nb=none
mutual
def Q7u:LTr->Prop
 |.mk i o n nb b ks a=>nb=none/\(∀x∈a,x.nb=none)/\Qc5 ks
def Qc5:List LTr->Prop
 |[]=>True
 |t::l=>Q7u t/\Qc5 l
end
theorem Q85:∀{l:List LTr},Qc5 l↔∀t∈l,Q7u t
 |[]=>by simp[Qc5]
 |t::l=>by simp[Qc5,Q85 (l:=l)]
theorem Qc4{t s:LTr}(h:Q7u t)(hs:s∈t.kids):Q7u s:=by
 cases t with
 |mk i o n nb b ks a=>exact Q85.1 h.2.2 s hs
theorem LinkL.plain{e:List Ex}{lts:List LTr}(h:LinkL e lts plainB)(hk:Q1d e):∀(n i:Nat)(t:LTr),i < n->lts[i]?=some t->Q7u t
 |0,i,t,hi,_=>by omega
 |n+1,i,t,hi,ht=>by
  have hil:i < e.length:=by rw[←h.len];exact (Z49.1 ht).1
  obtain⟨x,hx⟩:=Q02 hil;obtain⟨id,nb,a,h1,h2,h3,h4⟩:=h.at_ i x hx;rw[ht]at h1;cases h1;refine⟨h3,h4,Q85.2 fun s hs=>?_⟩;obtain⟨q,hq,rfl⟩:=Z5a.1 hs;have hq':=hk i x hx q hq;obtain⟨t',ht'⟩:=Q02 (l:=lts) (i:=q.toNat) (by rw[h.len];omega);rw[h.getD ht'];exact h.plain hk n q.toNat t' zoy ht'
theorem Q7d:∀{a:List LAlt},(∀x∈a,x.nb=none)->a.map lAlt=(a.map LAlt.er).map cAlt
 |[],_=>rfl
 |x::a,h=>by have h1:=h x zsy;have h2:=Q7d fun y hy=>h y (Z54 x hy);simp only[Z4t,h2];congr 1;simp only[lAlt,h1];rfl
def Qrf (Γ:List (Nat×List AC))(t:LTr):Prop:=∀(ou:Q03)(kw ko kt:Nat)(out:List Ex),OuOk ou->Owns ou (objs t)->ou kw=some (.cells [fnW kw ko])->ou ko=none->ou kt=none->ko≠kt->(Q0c out (erT t)).length<=1048576->
 AFn Tryz.prog Γ 66 [.one (.ptr (.o t.id) 0),.one (.ptr (.o kw) 0),.one (.ptr (.o ko) 0)] (ouS ou ko kt (out.map cEx)) (fun r ou'=>r=.one (int (((Q0c out (erT t)).length:Int) - 1))/\∃kt',ou kt'=none/\ko≠kt'/\ou'=ouS ou ko kt' ((Q0c out (erT t)).map cEx))
theorem Ql5(hΓ:GI Γ):∀t:LTr,okT (erT t)->Q7u t->Qrf Γ t
 |.mk i o n nb b lks a,hok,hpl=>by
  have ih:∀t∈lks,Qrf Γ t:=fun t ht=>Ql5 hΓ t (Qiv hok (Qlp (t:=.mk i o n nb b lks a) (by simpa[LTr.kids]using ht))) (Qc4 hpl (by simpa[LTr.kids]using ht));obtain⟨hb,hk,ha,⟨hab,_⟩,hks⟩:=hok;obtain⟨rfl,hpa,_⟩:=hpl;intro ou kw ko kt out Qzg hOw hw ho ht hne hsz;have hown:∀t∈lks,Owns ou (objs t):=fun t ht=>Qkl hOw (by simpa[LTr.kids]using ht);have hi0:ou i=some (.cells (lC (.mk i o n none b lks a))):=Q8q hOw;simp only[lC,bC,Q7d hpa]at hi0;have hi:∀kt es,ou kt=none->ouS ou ko kt es i=some (.cells [int o,int n,.sl 1 (b.map cI),.sl 1 (kC lks),.sl 2 ((a.map LAlt.er).map cAlt)]):=fun kt es hkt=>(Q4x (fun e=>by rw[e,ho]at hi0;cases hi0) (fun e=>by rw[e,hkt]at hi0;cases hi0) es).trans hi0;have hkl:(kC lks).length=lks.length:=Q50 lks;obtain⟨ks,hkse⟩:∃ks,ks=erTs lks:=⟨_,rfl⟩;have hkn:ks.length=lks.length:=by rw[hkse,Q2s,Z4k]
  have hkg:∀{j:Nat}{s:LTr},lks[j]?=some s->ks[j]?=some (erT s):=fun h=>by rw[hkse,Q2s];simp[h]
  simp only[erT]at hsz ⊢;rw[←hkse]at hsz hk ⊢;generalize hae:a.map LAlt.er=al at *;clear hkse hae;have hwo:kw≠ko:=fun e=>by rw[e,ho]at hw;cases hw
  have Z0c:(Q06 out ks).1.length < 1048576:=by simp only[Q0c,Z4g,Z4o]at hsz;omega
  refine zwk 70 Tryz.func66 fun hou=>?_;have hcl:=Q5j (Γ:=Γ) b hb;refine zA ?_;refine Qvs tabOk 15 14 [(3,.one (int o)),(7,.one (int n)),(11,.one (.sl 1 (b.map cI))),(12,.one (.sl 1 (b.map cI)))] follows zky rfl rfl rfl rfl rfl rfl rfl rfl rfl ?_ ?_ ?_
  ·refine .step rfl (zHP (zLD rfl rfl (hi _ _ ht) rfl)) ?_;refine .step rfl (zHP (zLD rfl rfl (hi _ _ ht) rfl)) ?_;refine .step rfl (zHP (zLD rfl rfl (hi _ _ ht) rfl)) ?_;exact .call hΓ hcl hou zsy rfl rfl rfl rfl rfl rfl .nil
  ·refine .step rfl (zHP (zLD rfl rfl (hi _ _ ht) rfl)) ?_;refine .step rfl (zHP (zLD rfl rfl (hi _ _ ht) rfl)) ?_;refine .step rfl (zHP (zLD rfl rfl (hi _ _ ht) rfl)) ?_;exact .call hΓ hcl hou zsy rfl rfl rfl rfl rfl rfl .nil
  repeat' first|refine zN ?_|((with_reducible refine oj ?_);first|refine zix ?_|refine zow rfl rfl (hi _ _ ht) ?_)
  refine Q00.grow 0 3 3 1 rfl rfl ?_;refine Qv6 hΓ (α:=Nat×Nat) (fun c=>[(29,.one (int c.1)),(28,.one (int (kC lks).length)),(27,.one (.sl 1 (kC lks))),(5,.one (.ptr (.l 0) 0)),(2,.one (.ptr (.o ko) 0)),(1,.one (.ptr (.o kw) 0)),(0,.one (.ptr (.o i) 0))])
   (fun c=>⟨2,[(1,.tok 3 1 c.1),(0,.cells [int o,int n,.sl 1 (b.map cI),.gs 1 ((Q06 out (ks.take c.1)).2.map cI) (.l 1),.lit (.slice none 0 0)])],ouS ou ko c.2 ((Q06 out (ks.take c.1)).1.map cEx)⟩)
   (fun m c=>c.1<=ks.length/\(ou c.2=none/\ko≠c.2)/\m=ks.length - c.1) (a0:=(0,kt)) (ρ:=id) ⟨by omega,⟨ht,hne⟩,rfl⟩ (Z39 rfl zFS zsy ?_ rfl (by simp[Q06];rfl) hou) fun m c hi=>?_
  ·repeat' first|exact Q1b.nil|refine zlc ?_|refine zld ?_ ?_|rfl
   all_goals (simp[AObj.ren,renL,AC.ren,Q06];rfl)
  obtain⟨q,kt⟩:=c;obtain⟨hil,⟨ht,hne⟩,rfl⟩:=hi;simp only at hil ht hne;have hwt:kw≠kt:=fun e=>by rw[e,ht]at hw;cases hw
  have hle:(Q06 out (ks.take q)).1.length<=(Q06 out ks).1.length:=by have:=Q3z (ks.take q) (ks.drop q) out;rw[Z5u]at this;rw[this];exact Q47 _ _
  refine zA ?_;refine Q00.cond rfl (fun hb3=>?_) (fun hb3=>?_)
  ·have Qz9:q < ks.length:=by simp[Q50]at hb3;omega
   obtain⟨lt,hlt3⟩:=Q02 (l:=lks) (i:=q) zoy;obtain⟨t,hte⟩:∃t,t=erT lt:=⟨_,rfl⟩;have ht2:ks[q]?=some t:=by rw[hte];exact hkg hlt3
   have hsn:=Q5y t (ks.take q) out;rw[←Q0u ht2]at hsn;have hle2:(Q0c (Q06 out (ks.take q)).1 t).length<=1048576:=by have:=Q3z (ks.take (q+1)) (ks.drop (q+1)) out;rw[Z5u]at this;have h2:=Q47 (ks.drop (q+1)) (Q06 out (ks.take (q+1))).1;rw[←this,hsn]at h2;simp only at h2;omega
   have hcall:=ih lt (Z5c hlt3) ou kw ko kt (Q06 out (ks.take q)).1 Qzg (hown lt (Z5c hlt3)) hw ho ht hne (by rw[←hte];exact hle2);rw[←hte]at hcall;have Qzy:((Q06 out (ks.take q)).2.map cI).length=q:=by rw[Z4k,Q4m];simp;omega
   refine zA ?_;refine zS (zIA rfl rfl rfl zoy (Q6r hlt3)) ?_;refine zA ?_;refine Qwj (va:=.one (int (((Q0c (Q06 out (ks.take q)).1 t).length:Int) - 1))) tabOk 6 4 [(2,.one (fnW kw ko))]
    (fun σ=>∃kt',ou kt'=none/\ko≠kt'/\σ=⟨2,[(1,.tok 3 1 q),(0,.cells [int o,int n,.sl 1 (b.map cI),.gs 1 ((Q06 out (ks.take q)).2.map cI) (.l 1),.lit (.slice none 0 0)])],ouS ou ko kt' ((Q0c (Q06 out (ks.take q)).1 t).map cEx)⟩)
    follows zky rfl rfl rfl rfl rfl ?_ rfl ⟨rfl,rfl⟩ rfl ?_ ?_ ?_ ?_
   ·rintro σ ⟨kt',h1,h2,rfl⟩;rfl
   ·refine Q27.call hΓ rfl rfl rfl rfl zsy (Q4h Qzg zsy) hcall fun r ou' hq _ _=>?_;obtain⟨rfl,kt',h1,h2,rfl⟩:=hq;exact⟨rfl,kt',h1,h2,rfl⟩
   ·exact .step rfl (zHP (zLD rfl rfl (Q4x hwo hwt _ |>.trans hw) rfl)) .nil
   ·rintro σ ⟨kt',h1,h2,rfl⟩;have Z1w:kw≠kt':=fun e=>by rw[e,h1]at hw;cases hw
    exact .step rfl (zHP (zLD rfl rfl (Q4x hwo Z1w _ |>.trans hw) rfl)) .nil
   rintro σ ⟨kt',h1,h2,rfl⟩;refine zA ?_;refine AOps.app tabOk rfl rfl rfl rfl rfl rfl rfl rfl rfl (Qve _ _ _ _ _ (by rfl) Qzy.symm) (.sl _ _) rfl ?_ ?_ ?_
   ·rw[Qzy];show (q+1) * 8<=_;omega
   ·rw[Qzy];show q+1<=_;omega
   refine zM ?_;refine cInv ⟨ks.length - (q+1),(q+1,kt'),fun k=>if k=1 then 2 else k,by omega,⟨by omega,⟨h1,h2⟩,rfl⟩,Z39 rfl zFS zsy ?_ rfl (by simp only[hsn];rfl) (Q4h Qzg zsy)⟩;repeat' first|exact Q1b.nil|refine zlc ?_|refine zld ?_ ?_|rfl
   ·simp only[AObj.ren,Z4g,Qzy];rfl
   ·simp only[hsn];simp only[AObj.ren,renL,AC.ren,Q4v];rw[Z4r];rfl
  have Qz9:q=ks.length:=by simp[Q50]at hb3;omega
  subst Qz9;rw[Z5w]at *;repeat' first|refine zN ?_|((with_reducible refine oj ?_);first|refine zix ?_|refine zow rfl rfl (hi _ _ ht) ?_)
  refine Q00.grow 0 4 51 2 rfl rfl ?_;refine Qv6 hΓ (α:=Nat) (fun q=>[(47,.one (int q)),(46,.one (int (al.map cAlt).length)),(45,.one (.sl 2 (al.map cAlt))),(5,.one (.ptr (.l 0) 0)),(2,.one (.ptr (.o ko) 0)),(1,.one (.ptr (.o kw) 0)),(0,.one (.ptr (.o i) 0))])
   (fun q=>⟨3,[(2,.tok 51 2 q),(0,.cells [int o,int n,.sl 1 (b.map cI),.gs 1 ((Q06 out ks).2.map cI) (.l 1),.gs 2 ((al.take q).map cAlt) (.l 2)])],ouS ou ko kt ((Q06 out ks).1.map cEx)⟩)
   (fun m q=>q<=al.length/\m=al.length - q) (a0:=0) (ρ:=id) ⟨by omega,rfl⟩ (Z39 rfl zFS zsy ?_ rfl rfl (Q4h Qzg zsy)) fun m q hq=>?_
  ·repeat' first|exact Q1b.nil|refine zlc ?_|refine zld ?_ ?_|rfl
   all_goals (simp[AObj.ren,renL,AC.ren];exact⟨rfl,rfl⟩)
  obtain⟨hil,rfl⟩:=hq;have Qzs:OuOk (ouS ou ko kt ((Q06 out ks).1.map cEx)):=Q4h Qzg zsy;refine zA ?_;refine Q00.cond rfl (fun hb3=>?_) (fun hb3=>?_)
  ·have Qz9:q < al.length:=by simpa using hb3
   obtain⟨c,hc⟩:=Q02 Qz9;have hal:((al.take q).map cAlt).length=q:=by simp;omega
   have hca:=Q5j (Γ:=Γ) c.binds (hab c (Z5c hc));refine zA ?_;refine zS (zIA rfl rfl rfl zoy (Q0f hc)) ?_;refine zA ?_;refine Qvh tabOk 9 [(6,.one (.sl 1 (c.binds.map cI)))] follows zky rfl rfl rfl rfl (.call hΓ hca Qzs zsy rfl rfl rfl rfl rfl rfl .nil) ?_;refine zA ?_;refine AOps.app tabOk rfl rfl rfl rfl rfl rfl rfl rfl rfl (Qve _ _ _ _ _ (by rfl) hal.symm) (.sl _ _) rfl ?_ ?_ ?_
   ·rw[hal];show (q+1) * 32<=_;omega
   ·rw[hal];show q+1<=_;omega
   refine zM ?_;refine cInv ⟨al.length - (q+1),q+1,fun k=>if k=2 then 4 else k,by omega,⟨by omega,rfl⟩,Z39 rfl zFS zsy ?_ rfl rfl Qzs⟩;repeat' first|exact Q1b.nil|refine zlc ?_|refine zld ?_ ?_|rfl
   ·simp only[AObj.ren,Z4g,hal];rfl
   ·rw[Q0u hc];simp only[AObj.ren,renL,AC.ren,Q4v,Q4w];rw[Z4r];rfl
  have Qz9:q=al.length:=by simp at hb3;omega
  subst Qz9;rw[Z5w];refine zA ?_;refine zS (zLD rfl rfl (Q6f hne _) rfl) ?_
  (first|((with_reducible refine oj ?_);refine zau ?_)|(with_reducible refine zst ?_)|((with_reducible refine Q0e ?_ ?_);rfl)|(with_reducible refine ok ?_;first|refine Q00.condT rfl ?_|refine Q00.condF rfl ?_))
  refine Z2n 64 rfl (y:=.agg (cEx ⟨o,n,b,(Q06 out ks).2,al⟩)) (WkF.agg ?_) ?_
  ·exact .cons (.refl _) (.cons (.refl _) (.cons (.refl _) (.cons (.gsE rfl) (.cons (.gsE rfl) .nil))))
  refine zA ?_;have hT:Q0c out (.mk o n b ks al)=(Q06 out ks).1++[⟨o,n,b,(Q06 out ks).2,al⟩]:=by simp only[Q0c]
  have hmap:(Q06 out ks).1.map cEx++[cEx ⟨o,n,b,(Q06 out ks).2,al⟩]=(Q0c out (.mk o n b ks al)).map cEx:=by rw[hT,Z4r];rfl
  refine AOps.app (es:=(Q06 out ks).1.map cEx) tabOk rfl rfl rfl rfl rfl rfl rfl rfl rfl (Qve _ 62 5 _ (.o kt) (Qfc ou ko kt _) rfl) (.sl 5 [cEx ⟨o,n,b,(Q06 out ks).2,al⟩]) rfl ?_ ?_ ?_
  ·simp;show (_+1) * 88<=_;omega
  ·simp;omega
  rw[hmap];refine Z2m (cs:=[.gs 5 ((Q06 out ks).1.map cEx) (.o kt)]) tabOk rfl rfl rfl rfl rfl rfl rfl (show (bif Nat.beq ko kt then some AObj.dead else ouS ou ko kt ((Q06 out ks).1.map cEx) ko)=_ by rw[Q0d hne];exact Q6f hne _) zsy ?_;refine Qwl 3 (show 3 < 4 by omega) fun k hk=>⟨[(2,.one (.ptr (.o ko) 0))],⟨4,[],ouS ou ko k ((Q0c out (.mk o n b ks al)).map cEx)⟩,⟨fun d x hd=>?_,rfl,fun i x hx=>?_⟩,?_⟩
  ·by_cases e:2=d
   ·subst e;simp[Fr.get]at hd;subst hd;exact⟨_,rfl,Z7h rfl⟩
   ·simp[Fr.get,Q0d e]at hd
  ·have hk':(bif Nat.beq k ko then some (AObj.cells [.gs 5 ((Q0c out (.mk o n b ks al)).map cEx) (.l 3)])else bif Nat.beq k kt then some AObj.dead else ouS ou ko kt ((Q06 out ks).1.map cEx) k)=none:=hk;have k1:k≠ko:=fun e=>by subst e;simp at hk'
   rw[Q0d k1]at hk';have k2:k≠kt:=fun e=>by subst e;simp at hk'
   rw[Q0d k2]at hk';simp only[cond_false,Q4x k1 k2]at hk';cases i with
   |l m=>cases hx
   |o m=>
    have hx':ouS ou ko k ((Q0c out (.mk o n b ks al)).map cEx) m=some x:=hx;by_cases e:m=k
    ·subst e;rw[Qfc]at hx';cases hx';exact⟨.l 3,_,rfl,rfl,rfl⟩
    ·by_cases e2:m=ko
     ·subst e2;rw[Q6f e]at hx';cases hx';refine⟨.o m,.cells [.gs 5 ((Q0c out (.mk o n b ks al)).map cEx) (.l 3)],?_,rfl,?_⟩
      ·show (bif Nat.beq m m then _ else _)=_;rw[Q5i];rfl
      ·simp only[AObj.sub,subL,AC.sub];rw[Qdl _ zsy];rfl
     ·rw[Q4x e2 e]at hx';have e3:m≠kt:=fun e=>by rw[e,ht]at hx';cases hx'
      refine⟨.o m,x,?_,rfl,(Z2h x (Qzg m x hx')).symm⟩;show (bif Nat.beq m ko then _ else bif Nat.beq m kt then _ else ouS ou ko kt _ m)=_;rw[Q0d e2,Q0d e3];exact (Q4x e2 e3 _).trans hx'
  ·have hk':(bif Nat.beq k ko then some (AObj.cells [.gs 5 ((Q0c out (.mk o n b ks al)).map cEx) (.l 3)])else bif Nat.beq k kt then some AObj.dead else ouS ou ko kt ((Q06 out ks).1.map cEx) k)=none:=hk;have k1:k≠ko:=fun e=>by subst e;simp at hk'
   rw[Q0d k1]at hk';have k2:k≠kt:=fun e=>by subst e;simp at hk'
   rw[Q0d k2]at hk';simp only[cond_false,Q4x k1 k2]at hk';refine zA ?_;refine zS (zLD rfl rfl (Q6f (Z6o k1) _) rfl) ?_;refine zM ?_;refine Qwm rfl (Z7h ?_) zsy (Q4h Qzg zsy) ⟨rfl,k,hk',Z6o k1,rfl⟩;simp
def IsR (X:FV)(ou:Q03)(r:FV)(ou':Q03):Prop:=r=X/\ou'=ou
theorem Qu3(hΓ:GI Γ)(t:LTr)(ht:okT (erT t))(hpl:Q7u t)(hsz:(Q0c [] (erT t)).length<=1048576)(ou:Q03)(hOw:Owns ou (objs t)):AFn Tryz.prog Γ 32 [.one (.ptr (.o t.id) 0)] ou (IsR (.one (.sl 5 ((Q0c [] (erT t)).map cEx))) ou):=by
 refine zwk 10 Tryz.func32 fun hou=>?_;iterate 22 (refine zO ?_)
 refine Q00.grow 0 0 62 5 rfl rfl ?_;refine zA ?_;refine Qwl 0 (show 0 < 3 by omega) fun ko hko=>⟨[(7,.one (.ptr (.o t.id) 0)),(6,.one (.fn (.func 66) [] [.ptr (.l 1) 0,.ptr (.o ko) 0])),(3,.one (.ptr (.o ko) 0))],
  ⟨3,[(2,.tok 62 5 0),(1,.cells [.fn (.func 66) [] [.ptr (.l 1) 0,.ptr (.o ko) 0]])],updO ou ko (.cells [.gs 5 [] (.l 2)])⟩,⟨CedFr.get ?_,rfl,fun i x hx=>?_⟩,?_⟩
 ·exact .cons rfl (rfl) (.cons rfl rfl (.cons rfl rfl .nil))
 ·have hko:ou ko=none:=hko;cases i with
  |l m=>
   by_cases e:2=m
   ·subst e;cases hx;exact⟨.l 2,_,rfl,rfl,rfl⟩
   ·have hx':Q28 m [(1,AObj.cells [.fn (.func 66) [] [.ptr (.l 1) 0,.ptr (.o ko) 0]])]=some x:=by simpa[St.get,Q28,Q0d e]using hx
    by_cases e1:1=m
    ·subst e1;cases hx';exact⟨.l 1,_,rfl,rfl,rfl⟩
    ·simp[Q28,Q0d e1]at hx'
  |o m=>
   have hx':updO ou ko (.cells [.gs 5 [] (.l 2)]) m=some x:=hx;by_cases e:ko=m
   ·subst e;rw[Q07]at hx';cases hx';exact⟨.l 0,_,rfl,rfl,rfl⟩
   ·rw[Q05 _ e]at hx';exact⟨.o m,x,hx',rfl,(Z2h x (hou m x hx')).symm⟩
 have hko:ou ko=none:=hko;refine Qwl 1 (show 1 < 3 by omega) fun kw hkw=>⟨[(7,.one (.ptr (.o t.id) 0)),(6,.one (fnW kw ko)),(3,.one (.ptr (.o ko) 0))],
  ⟨3,[(2,.tok 62 5 0)],updO (updO ou ko (.cells [.gs 5 [] (.l 2)])) kw (.cells [fnW kw ko])⟩,⟨CedFr.get ?_,rfl,fun i x hx=>?_⟩,?_⟩
 ·exact .cons rfl (rfl) (.cons rfl rfl (.cons rfl rfl .nil))
 ·have hkw:updO ou ko (.cells [.gs 5 [] (.l 2)]) kw=none:=hkw;cases i with
  |l m=>
   by_cases e:2=m
   ·subst e;cases hx;exact⟨.l 2,_,rfl,rfl,rfl⟩
   ·simp[St.get,Q28,Q0d e]at hx
  |o m=>
   have hx':updO (updO ou ko (.cells [.gs 5 [] (.l 2)])) kw (.cells [fnW kw ko]) m=some x:=hx;by_cases e:kw=m
   ·subst e;rw[Q07]at hx';cases hx';exact⟨.l 1,_,rfl,rfl,rfl⟩
   ·rw[Q05 _ e]at hx';by_cases e2:ko=m
    ·subst e2;rw[Q07]at hx';cases hx';exact⟨.o ko,_,Q07 _ _ _,rfl,rfl⟩
    ·have hx2:=hx';rw[Q05 _ e2]at hx2;exact⟨.o m,x,hx',rfl,(Z2h x (hou m x hx2)).symm⟩
 have hkw:updO ou ko (.cells [.gs 5 [] (.l 2)]) kw=none:=hkw;have hwo:ko≠kw:=fun e=>by subst e;rw[Q07]at hkw;cases hkw
 rw[Q05 _ hwo]at hkw;refine Qwl 2 (show 2 < 3 by omega) fun kt hkt=>⟨[(7,.one (.ptr (.o t.id) 0)),(6,.one (fnW kw ko)),(3,.one (.ptr (.o ko) 0))],
  ⟨3,[],ouS (updO ou kw (.cells [fnW kw ko])) ko kt (([]:List Ex).map cEx)⟩,⟨CedFr.get ?_,rfl,fun i x hx=>?_⟩,?_⟩
 ·exact .cons rfl (rfl) (.cons rfl rfl (.cons rfl rfl .nil))
 ·have hkt:updO (updO ou ko (.cells [.gs 5 [] (.l 2)])) kw (.cells [fnW kw ko]) kt=none:=hkt;have Z14:ko≠kt:=fun e=>by subst e;rw[Q05 _ (Z6o hwo),Q07]at hkt;cases hkt
  cases i with
  |l m=>cases hx
  |o m=>
   have hx':ouS (updO ou kw (.cells [fnW kw ko])) ko kt (([]:List Ex).map cEx) m=some x:=hx;by_cases e:m=kt
   ·subst e;rw[Qfc]at hx';cases hx';exact⟨.l 2,_,rfl,rfl,rfl⟩
   ·by_cases e2:m=ko
    ·subst e2;rw[Q6f Z14]at hx';cases hx';refine⟨.o m,.cells [.gs 5 [] (.l 2)],?_,rfl,rfl⟩;show updO (updO ou m (.cells [.gs 5 [] (.l 2)])) kw (.cells [fnW kw m]) m=_;rw[Q05 _ (Z6o hwo),Q07]
    ·rw[Q4x e2 e]at hx';by_cases e3:kw=m
     ·subst e3;rw[Q07]at hx';cases hx';exact⟨.o kw,_,Q07 _ _ _,rfl,rfl⟩
     ·rw[Q05 _ e3]at hx';refine⟨.o m,x,?_,rfl,(Z2h x (hou m x hx')).symm⟩;show updO (updO ou ko (.cells [.gs 5 [] (.l 2)])) kw (.cells [fnW kw ko]) m=_;rw[Q05 _ e3,Q05 _ (Z6o e2)];exact hx'
 have hkt:updO (updO ou ko (.cells [.gs 5 [] (.l 2)])) kw (.cells [fnW kw ko]) kt=none:=hkt;have hwt:kw≠kt:=fun e=>by subst e;rw[Q07]at hkt;cases hkt
 rw[Q05 _ hwt]at hkt;have hot:ko≠kt:=fun e=>by subst e;rw[Q07]at hkt;cases hkt
 rw[Q05 _ hot]at hkt;have hob:OuOk (updO ou kw (.cells [fnW kw ko])):=fun k o hk=>by
  by_cases e:kw=k
  ·subst e;rw[Q07]at hk;cases hk;simp
  ·rw[Q05 _ e]at hk;exact hou k o hk
 have hOw2:Owns (updO ou kw (.cells [fnW kw ko])) (objs t):=hOw.frame fun j hj=>by
  obtain⟨o,hp⟩:=of_keys hj;have hne:kw≠j:=fun e=>by have h1:ou j=some o:=hOw _ hp;rw[←e,hkw]at h1;cases h1
  exact Q05 _ hne _
 have hcall:=Ql5 hΓ t ht hpl (updO ou kw (.cells [fnW kw ko])) kw ko kt [] hob hOw2 (Q07 _ _ _) (by rw[Q05 _ (Z6o hwo)];exact hko) (by rw[Q05 _ hwt];exact hkt) hot hsz;refine Qv3 hΓ rfl rfl rfl rfl rfl rfl rfl zsy (Q4h hob zsy) hcall fun r ou' hq Qz6 Z0n=>?_;obtain⟨rfl,kt',h1,h2,rfl⟩:=hq;refine zA ?_;refine zS (zLD rfl rfl (Q6f h2 _) rfl) ?_;refine Z2n 9 rfl (y:=.one (.sl 5 ((Q0c [] (erT t)).map cEx))) (.one (.gsE rfl)) ?_;refine AOps.lessO ⟨3,[],ou⟩ rfl (fun i o ho=>?_) ?_
 ·cases i with
  |l m=>cases ho
  |o m=>
   have ho':ou m=some o:=ho;show ouS (updO ou kw (.cells [fnW kw ko])) ko kt' _ m=some o;have e1:m≠ko:=fun e=>by rw[e,hko]at ho';cases ho'
   have e2:kw≠m:=fun e=>by rw[←e,hkw]at ho';cases ho'
   have e3:m≠kt':=fun e=>by rw[←e,Q05 _ e2]at h1;rw[h1]at ho';cases ho'
   rw[Q4x e1 e3,Q05 _ e2];exact ho'
 refine zA ?_;exact Qwm rfl (Z7h rfl) zsy hou ⟨rfl,rfl⟩
end Go.Proofs.YtlmokgooijbcdaaGreatDoor
namespace Go.CoreX
def hNo (fo:Option LTr):Nat:=match fo with|none=>0|some _=>1
end Go.CoreX
namespace Go.Proofs.YtlmokgooijbcdaaGreatDoor
variable {Γ:List (Nat×List AC)}
theorem UpdL.one{R:List (Nat×AObj)}{c c':AObj}(hO:Owns ou ((i,c)::R))(hn:(keys ((i,c)::R)).Nodup)(hou:OuOk ou)(hc:c'.ids isO):UpdL ou ((i,c)::R) (updO ou i c') ((i,c')::R):=by
 simp only[keys,Z4t,Z5l]at hn;refine⟨fun p hp=>?_,by simpa[keys]using hn,fun k hk=>.inl (by simpa[keys]using hk),fun k hk hne=>?_,Q0y hou hc⟩
 ·rcases Z53.1 hp with rfl|hp
  ·exact Q07 _ _ _
  ·rw[Q05 _ (fun e=>hn.1 (by rw[e];exact Z5b hp))];exact hO p (Z54 _ hp)
 ·simp only[keys,Z4t,Z53,not_or]at hk;exact Q05 _ (Z6o hk.1) _
end Go.Proofs.YtlmokgooijbcdaaGreatDoor
namespace Go.CoreX
def alN (x:Alt):LAlt:=⟨x.tag,none,x.binds⟩
theorem er_alN(l:List Alt):(l.map alN).map LAlt.er=l:=by rw[Z4w];exact List.map_id'' (fun x=>by cases x;rfl) l
end Go.CoreX
namespace Go.Proofs.YtlmokgooijbcdaaGreatDoor
variable {Γ:List (Nat×List AC)}
theorem aO_alN(a:List Alt):aO (a.map alN)=[]:=by unfold aO;rw[List.flatMap_eq_nil_iff];intro x hx;obtain⟨y,_,rfl⟩:=Z5a.1 hx;rfl
theorem Qt1(a:List Alt):(a.map alN).map lAlt=a.map cAlt:=by rw[Z4w];exact Z4s fun x _=>rfl
def GrowPQ (e:List Ex)(ou:Q03)(r:FV)(ou':Q03):Prop:=∃t:LTr,r=.one (.ptr (.o t.id) 0)/\erT t=grow e/\Q7u t/\Owns ou' (objs t)/\(keys (objs t)).Nodup/\(∀k∈keys (objs t),ou k=none)/\OuOk ou'/\∀j o,ou j=some o->ou' j=some o
theorem Qu5(hΓ:GI Γ)(e:List Ex)(he:okE e)(hin:Q1d e)(hT:IsTree e)(ou:Q03):AFn Tryz.prog Γ 25 [.one (.sl 5 (e.map cEx))] ou (GrowPQ e ou):=by
 have hel:=he.l;refine zwk 85 Tryz.func25 fun hou=>?_;refine zA ?_;have hb:ti74.bytes * (e.map cEx).length<=281474976710656:=by simp;show 8 * _<=_;omega
 have hb2:(e.map cEx).length<=281474976710656:=by simp;omega
 refine zS (Qw3 tabOk rfl rfl rfl rfl rfl rfl rfl rfl hb hb2) ?_;refine zA ?_;refine Qv6 hΓ (α:=Nat×List LTr×Q03) (fun c=>[(16,.one (int c.1)),(15,.one (int (e.map cEx).length)),(14,.one (.sl 5 (e.map cEx))),(3,.one (.arr (.l 0) 1 0 (e.map cEx).length (e.map cEx).length)),(0,.one (.sl 5 (e.map cEx)))])
  (fun c=>⟨1,[(0,.cells (Q30 c.2.1 (e.map cEx).length))],c.2.2⟩) (fun m c=>c.1<=e.length/\(LinkL (e.take c.1) c.2.1 plainB/\NewO ou c.2.2 (c.2.1.flatMap ownO))/\m=e.length - c.1) (a0:=(0,[],ou)) (ρ:=id) ⟨by omega,⟨LinkL.nil,.nil hou⟩,rfl⟩
  (Z39 rfl zFS zsy (Q1b.cons rfl (by rw[Z2f _ _ zsy];show AObj.cells (List.replicate _ _)=AObj.cells (Q30 [] _);rw[Qmi]) rfl zsy .nil) rfl rfl hou) fun m c hc=>?_
 obtain⟨j,lts,ov⟩:=c;obtain⟨hjl,⟨hL,hN⟩,rfl⟩:=hc;dsimp only at hjl hL hN;have hov:=hN.ok;refine zA ?_;refine Q00.cond rfl (fun hb2=>?_) (fun hb2=>?_)
 ·have hlt:j < e.length:=by simpa using hb2
  obtain⟨x,hx⟩:=Q02 hlt;have hxo:=he.x x (Z5c hx);have hxk:=hxo.k;have hxa:=hxo.a;have Z1i:=hin j x hx;have hgl:lts.length=j:=by rw[hL.len];simp;omega
  refine zA ?_;refine zS (zIA rfl rfl rfl zoy (Q0f hx)) ?_;refine zA ?_;have hcl:=Q5j (Γ:=Γ) x.binds hxo.b;refine Qxu (va:=.one (.ptr (.l 2) 0)) (σ1:=(((St.mk 1 [(0,.cells (Q30 lts (e.map cEx).length))] ov).push (.cells (ti62.zero.map .lit))).set (.l 1) (.cells (cEx x))).push (.cells [int x.op,int x.n,.sl 1 (x.binds.map cI),.lit (.slice none 0 0),.lit (.slice none 0 0)]))
   tabOk 9 8 [(6,.one (.sl 1 (x.binds.map cI)))] follows zky rfl rfl rfl rfl rfl rfl rfl (Q0b.auto tabOk rfl) ?_ ?_ ?_
  ·exact .call hΓ hcl hov zsy rfl rfl rfl rfl rfl rfl .nil
  ·exact .call hΓ hcl hov zsy rfl rfl rfl rfl rfl rfl .nil
  refine zA ?_;refine Q00.grow 2 3 74 1 rfl rfl ?_;refine Qv6 hΓ (α:=Nat) (fun i=>[(33,.one (int i)),(32,.one (int (x.kids.map cI).length)),(31,.one (.sl 1 (x.kids.map cI))),(6,.one (.ptr (.l 2) 0)),(5,.one (.ptr (.l 1) 0)),(4,.one (int j)),(16,.one (int j)),(15,.one (int (e.map cEx).length)),(14,.one (.sl 5 (e.map cEx))),(3,.one (.arr (.l 0) 1 0 (e.map cEx).length (e.map cEx).length)),(0,.one (.sl 5 (e.map cEx)))])
   (fun i=>⟨4,[(3,.tok 74 1 i),(2,.cells [int x.op,int x.n,.sl 1 (x.binds.map cI),.gs 1 (kC (Q5m lts (x.kids.take i))) (.l 3),.lit (.slice none 0 0)]),(1,.cells (cEx x)),(0,.cells (Q30 lts (e.map cEx).length))],ov⟩)
   (fun m i=>i<=x.kids.length/\m=x.kids.length - i) (a0:=0) (ρ:=id) ⟨by omega,rfl⟩ (Z39 rfl zFS zsy ?_ rfl rfl hov) fun m i hi=>?_
  ·repeat' first|exact Q1b.nil|refine zlc ?_|refine zld ?_ ?_|rfl
   all_goals (simp[AObj.ren,renL,AC.ren,Q5m];exact⟨rfl,rfl⟩)
  obtain⟨hil,rfl⟩:=hi;refine zA ?_;refine Q00.cond rfl (fun hb3=>?_) (fun hb3=>?_)
  ·have Qz9:i < x.kids.length:=by simpa using hb3
   obtain⟨k,hk⟩:=Q02 Qz9;have hkb:=Z1i k (Z5c hk);obtain⟨k',rfl⟩:∃k':Nat,k=k':=⟨k.toNat,by omega⟩;obtain⟨tk,htk⟩:=Q02 (l:=lts) (i:=k') zoy;have htd:lts.getD (k':Int).toNat default=tk:=by rw[Z38,Z42,htk];rfl
   have hks:=Qmt (ts:=lts) hk;rw[htd]at hks;have hkl:(kC (Q5m lts (x.kids.take i))).length=i:=by simp[kC,Q5m];omega
   refine zA ?_;refine zS (zIA rfl rfl rfl zoy (Q0f hk)) ?_;refine zA ?_;refine Qxu (va:=.one (.gs 1 (kC (Q5m lts (x.kids.take i))++[[AC.ptr (.o tk.id) 0]]) (.l 4))) (σ1:=((St.mk 4 [(3,.tok 74 1 i),(2,.cells [int x.op,int x.n,.sl 1 (x.binds.map cI),.gs 1 (kC (Q5m lts (x.kids.take i))) (.l 3),.lit (.slice none 0 0)]),(1,.cells (cEx x)),(0,.cells (Q30 lts (e.map cEx).length))] ov).set (.l 3) .dead).push (.tok 74 1 (kC (Q5m lts (x.kids.take i))++[[AC.ptr (.o tk.id) 0]]).length))
    tabOk 11 10 [(7,.one (.ptr (.l 0) k')),(8,.one (.ptr (.o tk.id) 0))] follows zky rfl rfl rfl rfl rfl rfl rfl ?_ ?_ ?_ ?_
   ·refine Q0b.plain rfl (Q01.append (s:=1) (es:=kC (Q5m lts (x.kids.take i))) (news:=[[AC.ptr (.o tk.id) 0]]) (ti:=Qih) (σ:=⟨4,[(3,.tok 74 1 i),(2,.cells [int x.op,int x.n,.sl 1 (x.binds.map cI),.gs 1 (kC (Q5m lts (x.kids.take i))) (.l 3),.lit (.slice none 0 0)]),(1,.cells (cEx x)),(0,.cells (Q30 lts (e.map cEx).length))],ov⟩) tabOk rfl rfl rfl rfl rfl rfl (Qve _ 74 1 (kC (Q5m lts (x.kids.take i))) (.l 3) rfl hkl.symm) (.sl _ _) rfl ?_ ?_)
    ·rw[hkl];show (i+1) * 8<=_;omega
    ·rw[hkl];show i+1<=_;omega
   ·refine .step rfl (zHP (idxI tabOk rfl rfl rfl rfl rfl rfl rfl zuy)) ?_;exact .step rfl (zHP (zLD rfl rfl rfl (Q9w htk))) .nil
   ·refine .step rfl (zHP (idxI tabOk rfl rfl rfl rfl rfl rfl rfl zuy)) ?_;exact .step rfl (zHP (zLD rfl rfl rfl (Q9w htk))) .nil
   refine zM ?_;refine cInv ⟨x.kids.length - (i+1),i+1,fun k=>if k=3 then 4 else k,by omega,⟨by omega,rfl⟩,Z39 rfl zFS zsy ?_ rfl rfl hov⟩;repeat' first|exact Q1b.nil|refine zlc ?_|refine zld ?_ ?_|rfl
   ·simp only[AObj.ren,Z4g,hkl];rfl
   ·rw[hks,Qpo];simp only[AObj.ren,renL,AC.ren,Q4v];rw[←Qpo,ren_kC];rfl
  have Qz9:i=x.kids.length:=by simp at hb3;omega
  subst Qz9;rw[Z5w];refine zA ?_;refine Q00.grow 2 4 51 2 rfl rfl ?_;refine Qv6 hΓ (α:=Nat) (fun i=>[(54,.one (int i)),(53,.one (int (x.alts.map cAlt).length)),(52,.one (.sl 2 (x.alts.map cAlt))),(6,.one (.ptr (.l 2) 0)),(4,.one (int j)),(16,.one (int j)),(15,.one (int (e.map cEx).length)),(14,.one (.sl 5 (e.map cEx))),(3,.one (.arr (.l 0) 1 0 (e.map cEx).length (e.map cEx).length)),(0,.one (.sl 5 (e.map cEx)))])
   (fun i=>⟨5,[(4,.tok 51 2 i),(2,.cells [int x.op,int x.n,.sl 1 (x.binds.map cI),.gs 1 (kC (Q5m lts x.kids)) (.l 3),.gs 2 ((x.alts.take i).map cAlt) (.l 4)]),(0,.cells (Q30 lts (e.map cEx).length))],ov⟩)
   (fun m i=>i<=x.alts.length/\m=x.alts.length - i) (a0:=0) (ρ:=id) ⟨by omega,rfl⟩ (Z39 rfl zFS zsy ?_ rfl rfl hov) fun m i hi=>?_
  ·repeat' first|exact Q1b.nil|refine zlc ?_|refine zld ?_ ?_|rfl
   all_goals (simp[AObj.ren,renL,AC.ren];exact⟨rfl,rfl⟩)
  obtain⟨hil,rfl⟩:=hi;refine zA ?_;refine Q00.cond rfl (fun hb3=>?_) (fun hb3=>?_)
  ·have Qz9:i < x.alts.length:=by simpa using hb3
   obtain⟨a,ha⟩:=Q02 Qz9;have hal:((x.alts.take i).map cAlt).length=i:=by simp;omega
   have hca:=Q5j (Γ:=Γ) a.binds (hxo.ab a (Z5c ha));refine zA ?_;refine zS (zIA rfl rfl rfl zoy (Q0f ha)) ?_;refine zA ?_;refine Qxu (va:=.one (.gs 2 ((x.alts.take i).map cAlt++[cAlt a]) (.l 6))) (σ1:=((((St.mk 5 [(4,.tok 51 2 i),(2,.cells [int x.op,int x.n,.sl 1 (x.binds.map cI),.gs 1 (kC (Q5m lts x.kids)) (.l 3),.gs 2 ((x.alts.take i).map cAlt) (.l 4)]),(0,.cells (Q30 lts (e.map cEx).length))] ov).push (.cells (ti51.zero.map .lit))).set (.l 5) (.cells (cAlt a))).set (.l 4) .dead).push (.tok 51 2 ((x.alts.take i).map cAlt++[cAlt a]).length))
    tabOk 13 12 [(9,.one (.sl 1 (a.binds.map cI)))] follows zky rfl rfl rfl rfl rfl rfl rfl ?_ ?_ ?_ ?_
   ·refine Q0b.plain rfl (Q01.append (s:=2) (es:=(x.alts.take i).map cAlt) (news:=[cAlt a]) (ti:=ti52) (σ:=(((St.mk 5 [(4,.tok 51 2 i),(2,.cells [int x.op,int x.n,.sl 1 (x.binds.map cI),.gs 1 (kC (Q5m lts x.kids)) (.l 3),.gs 2 ((x.alts.take i).map cAlt) (.l 4)]),(0,.cells (Q30 lts (e.map cEx).length))] ov).push (.cells (ti51.zero.map .lit))).set (.l 5) (.cells (cAlt a)))) tabOk rfl rfl rfl rfl rfl rfl (Qve _ 51 2 ((x.alts.take i).map cAlt) (.l 4) rfl hal.symm) (.sl _ _) rfl ?_ ?_)
    ·rw[hal];show (i+1) * 32<=_;omega
    ·rw[hal];show i+1<=_;omega
   ·exact .call hΓ hca hov zsy rfl rfl rfl rfl rfl rfl .nil
   ·exact .call hΓ hca hov zsy rfl rfl rfl rfl rfl rfl .nil
   refine zM ?_;refine cInv ⟨x.alts.length - (i+1),i+1,fun k=>if k=4 then 6 else k,by omega,⟨by omega,rfl⟩,Z39 rfl zFS zsy ?_ rfl rfl hov⟩;repeat' first|exact Q1b.nil|refine zlc ?_|refine zld ?_ ?_|rfl
   ·simp only[AObj.ren,Z4g,hal];rfl
   ·rw[Q0u ha];simp only[AObj.ren,renL,AC.ren,Q4v,ren_kC,Q4w];rw[Z4r];rfl
  have Qz9:i=x.alts.length:=by simp at hb3;omega
  subst Qz9;rw[Z5w];refine zA ?_;refine zS (idxI tabOk rfl rfl rfl rfl rfl rfl rfl zuy) ?_;refine AOps.wkObj (.l 2) rfl (cs':=[int x.op,int x.n,.sl 1 (x.binds.map cI),.sl 1 (kC (Q5m lts x.kids)),.sl 2 (x.alts.map cAlt)]) (fun w C xs h=>(show WkL _ _ from .cons (.refl _) (.cons (.refl _) (.cons (.refl _) (.cons (.gsE rfl) (.cons (.gsE rfl) .nil))))) w C xs h) ?_;have hθ:∀(k:Nat) (i:Abs.Id),isO i->toOs [2] k i=i:=fun k i hi=>by cases i with|l q=>exact hi.elim|o q=>rfl
  refine Z2k [2] rfl zdy hov fun k hk=>⟨[(77,.one (.ptr (.l 0) j)),(76,.one (.ptr (.o k) 0)),(16,.one (int j)),(15,.one (int (e.map cEx).length)),(14,.one (.sl 5 (e.map cEx))),(3,.one (.arr (.l 0) 1 0 (e.map cEx).length (e.map cEx).length)),(0,.one (.sl 5 (e.map cEx)))],
   [(0,.cells (Q30 lts (e.map cEx).length))],[.cells [int x.op,int x.n,.sl 1 (x.binds.map cI),.sl 1 (kC (Q5m lts x.kids)),.sl 2 (x.alts.map cAlt)]],?_,?_,?_,?_⟩
  ·exact .cons rfl rfl (.cons rfl rfl (.cons rfl rfl (.cons rfl rfl (.cons rfl (FV.sub_f (hθ k) _ zsy) (.cons rfl rfl (.cons rfl (FV.sub_f (hθ k) _ zsy) .nil))))))
  ·exact .cons rfl rfl (Z2g (hθ k) _ (Qhe _ _)) .nil
  ·exact .cons rfl (Z2g (hθ k) (.cells _) zsy) .nil
  have hN1:=NewO.add hk hov (o:=.cells [int x.op,int x.n,.sl 1 (x.binds.map cI),.sl 1 (kC (Q5m lts x.kids)),.sl 2 (x.alts.map cAlt)]) zsy;have hN2:=hN.trans hN1;obtain⟨t,ht⟩:∃t:LTr,t=.mk k x.op x.n none x.binds (Q5m lts x.kids) (x.alts.map alN):=⟨_,rfl⟩;have hto:lts.flatMap ownO++[(k,.cells [int x.op,int x.n,.sl 1 (x.binds.map cI),.sl 1 (kC (Q5m lts x.kids)),.sl 2 (x.alts.map cAlt)])]=(lts++[t]).flatMap ownO:=by rw[Z3u,ht];simp only[Z3v,List.flatMap_nil,ownO,bO,bC,aO_alN,Qt1,Z5j,Z3f]
  rw[hto]at hN2;have hL2:=hL.snoc (Qmu (by rw[Z5u];exact hin)) (x:=x) (fun q hq=>by have:=Z1i q hq;simp;omega) (id:=k) (nb:=none) (a:=x.alts.map alN) (er_alN _) rfl (fun y hy=>by obtain⟨z,_,rfl⟩:=Z5a.1 hy;rfl);rw[←Q0u hx,show LTr.mk k x.op x.n none x.binds (x.kids.map fun q=>lts.getD q.toNat default) (x.alts.map alN)=t by rw[ht];rfl]at hL2;refine Z2m tabOk rfl rfl rfl rfl rfl rfl rfl rfl (by rw[Qmj (by simp[hgl];omega)];simp;omega) ?_;have hst:=Qmh (ts:=lts) (n:=(e.map cEx).length) (by simp[hgl];omega) t;rw[hgl,show t.id=k by rw[ht];rfl]at hst;rw[hst];refine zM ?_;exact cInv ⟨e.length - (j+1),(j+1,lts++[t],_),id,by omega,⟨by omega,⟨hL2,hN2⟩,rfl⟩,Z39 rfl zFS zsy zLO rfl rfl hN2.ok⟩
 ·have hlt:j=e.length:=by simp at hb2;omega
  subst hlt;rw[Z5w]at hL;obtain⟨N,hNe⟩:∃N,e.length=N+1:=⟨e.length - 1,by have:=Z4m.2 hT.ne;omega⟩;obtain⟨t,ht⟩:=Q02 (l:=lts) (i:=N) (by rw[hL.len];omega);have hnt:e.length - 1=N:=by omega
  refine zM ?_;refine Z2n 82 rfl (y:=.one (int (N:Nat))) (.ofEq (by congr 3;simp;omega)) ?_;refine zS (idxI tabOk rfl rfl rfl rfl rfl rfl rfl zuy) ?_;refine zS (zLD rfl rfl rfl (Q9w ht)) ?_;refine zA ?_;have hown:=hL.own hin _ N t (Z6f _) ht;refine Qwm rfl (Z7h rfl) (by simp[AC.ids]) hov ⟨t,rfl,?_,hL.plain hin _ N t (Z6f _) ht,?_,?_,?_,hov,?_⟩
  ·rw[hL.er hin _ N t (Z6f _) ht];unfold grow Q67;rw[hnt]
  ·exact fun p hp=>hN.own p (hown p hp)
  ·exact hL.nodup hT hN.nd (by rw[hnt];exact ht)
  ·intro k hk;obtain⟨p,hp,rfl⟩:=Z5a.1 hk;exact hN.new p.1 (Z5b (hown p hp))
  ·intro m o hm;show ov m=some o;rw[hN.old m fun hmk=>by have:=hN.new m hmk;rw[hm]at this;cases this];exact hm
end Go.Proofs.YtlmokgooijbcdaaGreatDoor
namespace Go.Abs
theorem Qye{t:TypeId}{a b:Nat}(ha:a < 18446744073709551616)(hb:b < 18446744073709551616)(ho:o.op=.binOp .or t x y yt)(hx:Q08 E.Γ fr x=some (.one (.lit (.int .u64 (a:Int)))))(hy:Q08 E.Γ fr y=some (.one (.lit (.int .u64 (b:Int))))):Q01 E o fr σ (.one (.lit (.int .u64 ((a ||| b:Nat):Int)))) σ:=by refine Qur fun F w C tmps hi hf=>⟨.int .u64 ((a ||| b:Nat):Int),?_,rfl,rfl⟩;have h1:=Q04 (a:=⟨tmps,E.ds⟩) hi hf hx;have h2:=Q04 (a:=⟨tmps,E.ds⟩) hi hf hy;simp only[RF,R]at h1 h2;unfold execOp;simp only[ho,h1.1,h2.1,eqGuard_at_int,Z73,Z74,Z72];rw[←bits_or_u64_nat a b ha hb];rfl
theorem Qyf{t:TypeId}{k:IntKind}{b:Int}(ho:o.op=.binOp .mul t x y yt)(hx:Q08 E.Γ fr x=some (.one (.lit (.int k a))))(hy:Q08 E.Γ fr y=some (.one (.lit (.int k b)))):Q01 E o fr σ (.one (.lit (.int k (k.wrap (a * b))))) σ:=by refine Qur fun F w C tmps hi hf=>⟨.int k (k.wrap (a * b)),?_,rfl,rfl⟩;have h1:=Q04 (a:=⟨tmps,E.ds⟩) hi hf hx;have h2:=Q04 (a:=⟨tmps,E.ds⟩) hi hf hy;simp only[RF,R]at h1 h2;unfold execOp;simp only[ho,h1.1,h2.1,eqGuard_at_int,Z73,Z74,Z72];simp[binOp,Op.intArith]
theorem Qyg{t:TypeId}{k:IntKind}(ho:o.op=.unOp .neg t x)(hx:Q08 E.Γ fr x=some (.one (.lit (.int k a)))):Q01 E o fr σ (.one (.lit (.int k (k.wrap (-a))))) σ:=by refine Qur fun F w C tmps hi hf=>⟨.int k (k.wrap (-a)),?_,rfl,rfl⟩;have e1:=Q04 (a:=⟨tmps,E.ds⟩) hi hf hx;simp only[RF,R]at e1;unfold execOp;simp only[ho,e1.1];simp[Op.unary,Op.intArith]
theorem Qyh{t:TypeId}{k j:IntKind}{b:Int}(ho:o.op=.binOp .shl t x y yt)(hx:Q08 E.Γ fr x=some (.one (.lit (.int k a))))(hy:Q08 E.Γ fr y=some (.one (.lit (.int j b))))(h0:0<=b)(h1:b<=k.bits):
  Q01 E o fr σ (.one (.lit (.int k (k.wrap (a * 2 ^ b.toNat))))) σ:=by
 refine Qur fun F w C tmps hi hf=>⟨.int k (k.wrap (a * 2 ^ b.toNat)),?_,rfl,rfl⟩;have e1:=Q04 (a:=⟨tmps,E.ds⟩) hi hf hx;have e2:=Q04 (a:=⟨tmps,E.ds⟩) hi hf hy;simp only[RF,R]at e1 e2;unfold execOp;simp only[ho,e1.1,e2.1,eqGuard_shl,Z73,Z74,Z72,binOp_shl,shift_shl _ _ _ _ h0 h1]
theorem Qyi{t e:TypeId}{m:Nat}{i:Operand}{k:IntKind}{n:Int}{cs:List AC}(hT:Q0t E.P E.T)(ho:o.op=.indexAddr t x i)(hu:E.P.underlying t=some (.array m e))(hj:Tab.get e E.T=some tj)(hx:Q08 E.Γ fr x=some (.one (.box cs)))(hi':Q08 E.Γ fr i=some (.one (.lit (.int k n))))(h0:0<=n)(hn:n < m):
  Q01 E o fr σ (.one (.box (cs.drop (n.toNat * tj.size)))) σ:=by
 refine Qur fun F w C tmps hi hf=>?_;have h1:=Q04 (a:=⟨tmps,E.ds⟩) hi hf hx;have h2:=Q04 (a:=⟨tmps,E.ds⟩) hi hf hi';simp only[RF,R]at h1 h2;obtain⟨ad,hv,hs,hr⟩:=h1;have hsz:=(hT _ _ hj).run_sizeOf (w:=w);refine⟨.pointer (some (ad.add (n.toNat * tj.size))),?_,ad.add (n.toNat * tj.size),rfl,by rw[Que hs],?_⟩
 ·unfold execOp;simp only[ho];simp[Instr.indexAt,hv,h2.1,asIntOf,run_underlying hu,Instr.sureAddr,h0,hn,hsz,Result.andThen]
 ·rw[Que hs];exact RL.drop _ hs hr
end Go.Abs
namespace Go.CoreX
def Q2h (w:Nat):List Nat:=if h:w=0 then []else Lib.ctz 64 w::Q2h (w &&& (w - 1))
termination_by w
decreasing_by
 have:w &&& (w - 1)<=w - 1:=Z65;omega
def Q2i:Nat->List Nat->List Nat
 |_,[]=>[]
 |k,w::s=>(Q2h w).map (fun n=>64 * k+n)++Q2i (k+1) s
def elems (s:List Nat):List Nat:=Q2i 0 s
def orL (a b:List Nat):List Nat:=List.zipWith (fun x y=>x ||| y) a b
end Go.CoreX
namespace Go.Proofs.YtlmokgooijbcdaaGreatDoor
def cW (w:Nat):AC:=.lit (.int .u64 (w:Int))
def wC (s:List Nat):List AC:=s.map cW
def dbC:List AC:=Lib.deBruijn64tab.map fun n:Nat=>.lit (.int .u8 (n:Int))
def Γt:List (Nat×List AC):=[(2,dbC),(1,arC)]
theorem hΓt:∀g cs,(g,cs)∈Γt->idsL isO cs:=by
 intro g cs h;simp only[Γt,Z53,Z5m,or_false,Z70]at h;rcases h with ⟨_,rfl⟩|⟨_,rfl⟩
 ·simp[dbC,Lib.deBruijn64tab]
 ·exact hΓc 1 arC (by simp[Γc])
theorem hct:∀g cs,(g,cs)∈Γc->(g,cs)∈Γt:=by intro g cs h;simp only[Γc,Z53,Z5m,or_false,Z70]at h;obtain⟨rfl,rfl⟩:=h;simp[Γt]
theorem Q09.t{r:FV}(h:Q09 Tryz.prog Γc g args r):Q09 Tryz.prog Γt g args r:=h.moreG hct hΓt
theorem tz_ok(x:Nat)(hx:x < 18446744073709551616)(h0:x≠0):Q09 Tryz.prog Γt 128 [.one (cW x)] (.one (int (Lib.ctz 64 x:Nat))):=by
 obtain⟨hlow,hk⟩:=Z3a 64 x h0 hx;obtain⟨hi,htab⟩:=Lib.deBruijn64_at _ hk;intro ou;refine zwk 14 Tryz.func128 fun hou=>?_;refine zA ?_;refine Q00.cond rfl (fun hb=>?_) (fun hb=>?_)
 ·exact absurd (by simpa using hb) h0
 obtain⟨k,hkk⟩:∃k,k=Lib.ctz 64 x:=⟨_,rfl⟩;rw[←hkk]at hlow hk hi htab;have e1:IntKind.u64.wrap (-(x:Int))=((18446744073709551616 - x:Nat):Int):=by rw[IntKind.wrap_u64];omega
 have e2:IntKind.u64.wrap (((2 ^ k:Nat):Int) * 285870213051353865) / 2 ^ (58:Int).toNat=((2 ^ k * 285870213051353865 % 18446744073709551616 / 288230376151711744:Nat):Int):=by rw[IntKind.wrap_u64,show (2:Int) ^ (58:Int).toNat=288230376151711744 from rfl];generalize 2 ^ k=p;omega
 obtain⟨m,hm⟩:∃m,m=2 ^ k * 285870213051353865 % 18446744073709551616 / 288230376151711744:=⟨_,rfl⟩;rw[←hm]at e2 hi htab;refine zA ?_;refine zS (Qyg rfl rfl) ?_;rw[e1];refine zS (Qxm (a:=x) (b:=18446744073709551616 - x) hx zoy rfl rfl rfl) ?_;rw[show x &&& (18446744073709551616 - x)=2 ^ k from hlow];refine zS (Qyf rfl rfl rfl) ?_;refine zS (Q01.shr rfl rfl rfl zdy zdy) ?_;rw[e2];have hlen:dbC.length=64:=by simp[dbC,Lib.deBruijn64tab]
 refine zS (Qyi (m:=64) (e:=5) (tj:=ti5) tabOk rfl zky rfl rfl rfl zoy zoy) ?_;have hget:dbC[m]?=some (.lit (.int .u8 (k:Int))):=by
  have h1:m < Lib.deBruijn64tab.length:=by simpa[Lib.deBruijn64tab]using hi
  rw[Z42,Z47 h1]at htab;simp only[dbC,Z4a,Z47 h1,Z6x];simp only[Z6t]at htab;rw[htab]
 refine zS (Qwe tabOk rfl rfl rfl rfl rfl (c:=.lit (.int .u8 (k:Int))) (by rw[Z38,show ti5.size=1 from rfl,Z6h,Z46];exact hget)) ?_;refine zS (Qvp rfl rfl rfl rfl zI) ?_;refine zA ?_;rw[←hkk];exact Q09.fin rfl (.refl _) zsy hou rfl
end Go.Proofs.YtlmokgooijbcdaaGreatDoor
