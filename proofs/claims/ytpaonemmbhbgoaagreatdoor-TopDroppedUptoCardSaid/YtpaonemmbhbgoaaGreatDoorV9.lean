/- Rename, walked: the renaming of one list of identifiers. -/
import Derived.Test.YtpaonemmbhbgoaaGreatDoorV8
set_option maxRecDepth 10000
set_option linter.unusedVariables false
set_option linter.unusedSimpArgs false
namespace Go.CoreX
def frB (f:Int)(l:List Int):List Int:=(List.range l.length).map fun i:Nat=>f+i
def frN (m:Nm)(f:Int)(l:List Int):Nm:=putsN m l (frB f l)
theorem Qgc(f:Int)(l:List Int):(frB f l).length=l.length:=by simp[frB]
end Go.CoreX
namespace Go.Proofs.YtpaonemmbhbgoaaGreatDoor
open Go Go.Abs Go.CoreX
variable {Γ:List (Nat×List AC)}
end Go.Proofs.YtpaonemmbhbgoaaGreatDoor
namespace Go.CoreX
def rnAs (nm:Nm)(f:Int):List LAlt->List LAlt×Nm×Int
 |[]=>([],nm,f)
 |x::l=>(⟨x.tag,x.nb,frB f x.binds⟩::(rnAs (frN nm f x.binds) (f+x.binds.length) l).1,(rnAs (frN nm f x.binds) (f+x.binds.length) l).2)
def ren1 (o:Int)(nm:Nm)(f:Int)(b:List Int):List Int×Nm×Int:=if o=9 then (b,nm,f)else (frB f b,frN nm f b,f+b.length)
mutual
def rnL (nm:Nm)(f:Int):LTr->LTr×Nm×Int
 |.mk i o n nb b k a=>
  let s1:=ren1 o nm f b
  let s2:=rnAs s1.2.1 s1.2.2 a
  let s3:=rnLs s2.2.1 s2.2.2 k
  (.mk i o (if o=0 then (nm n).getD n else n) nb s1.1 s3.1 s2.1,s3.2)
def rnLs (nm:Nm)(f:Int):List LTr->List LTr×Nm×Int
 |[]=>([],nm,f)
 |t::l=>((rnL nm f t).1::(rnLs (rnL nm f t).2.1 (rnL nm f t).2.2 l).1,(rnLs (rnL nm f t).2.1 (rnL nm f t).2.2 l).2)
end
def ownB (nb:Nb)(b:List Int):Prop:=nb=none->b=[]
mutual
def okL:LTr->Prop
 |.mk _ o _ nb b k a=>(o≠9->ownB nb b)/\b.length<=1048576/\k.length<=1048576/\a.length<=1048576/\(∀x∈a,ownB x.nb x.binds/\x.binds.length<=1048576)/\okLs k
def okLs:List LTr->Prop
 |[]=>True
 |t::l=>okL t/\okLs l
end
theorem Qht:∀{l:List LTr},okLs l↔∀t∈l,okL t
 |[]=>by simp[okLs]
 |t::l=>by simp[okLs,Qht (l:=l)]
end Go.CoreX
namespace Go.Proofs.YtpaonemmbhbgoaaGreatDoor
open Go Go.Abs Go.CoreX
variable {Γ:List (Nat×List AC)}
theorem Q21(l r:List (Nat×AObj)):keys (l++r)=keys l++keys r:=by simp[keys]
theorem aO_app(l r:List LAlt):aO (l++r)=aO l++aO r:=by simp[aO]
theorem Q8e(o n:Int)(nb:Nb)(b:List Int)(ks:List LTr)(a:List LAlt):(AObj.cells [int o,int n,bC nb b,.sl 1 (kC ks),.sl 2 (a.map lAlt)]).ids isO:=
 ⟨trivial,trivial,Qek _ (fun _=>trivial) _ _,Qie _ (fun _=>trivial) _,Q6j _ (fun _=>trivial) _,trivial⟩
theorem Qhr{ou:Outer}{k:Nat}{os:List AObj}(h:OuOk ou)(ho:∀o∈os,o.ids isO):OuOk (ouAdd ou k os):=by
 intro m o hm
 rcases Nat.lt_or_ge m k with h1|h1
 ·rw[Q6f h1]at hm;exact h m o hm
 ·obtain⟨p,rfl⟩:∃p,m=k+p:=⟨m - k,by omega⟩
  rw[Q42]at hm
  exact ho o (List.mem_of_getElem? hm)
theorem Wk.arr0(i:Abs.Id)(s cap:Nat):Wk (.arr i s 0 0 cap) (.sl s []):=by
 intro w C v h
 simp only[R]at h ⊢
 obtain⟨_,rfl,hc⟩:=h
 exact⟨_,cap,rfl,by simp,.inl trivial⟩
structure NewO (ou ou':Outer)(L:List (Nat×AObj)):Prop where
 own:Owns ou' L
 new:∀k∈keys L,ou k=none
 old:∀m,m∉keys L->ou' m=ou m
 ok:OuOk ou'
 nd:(keys L).Nodup
theorem NewO.nil{ou:Outer}(h:OuOk ou):NewO ou ou []:=⟨fun p hp=>by simp at hp,fun k hk=>by simp[keys]at hk,fun _ _=>rfl,h,by simp[keys]⟩
theorem NewO.trans{ou ou1 ou2:Outer}{L M:List (Nat×AObj)}(h:NewO ou ou1 L)(k:NewO ou1 ou2 M):NewO ou ou2 (L++M):=by
 have hLM:∀j∈keys L,j∉keys M:=fun j hj hm=>by
  have h1:=k.new j hm
  obtain⟨p,hp,rfl⟩:=List.mem_map.1 hj
  rw[h.own p hp]at h1
  cases h1
 refine⟨Owns.app.2 ⟨h.own.frame fun j hj=>k.old j (hLM j hj),k.own⟩,fun j hj=>?_,fun m hm=>?_,k.ok,?_⟩
 ·rw[Q21,List.mem_append]at hj
  by_cases e:j∈keys L
  ·exact h.new j e
  ·rw[←h.old j e]
   exact k.new j (hj.resolve_left e)
 ·rw[Q21,List.mem_append,not_or]at hm
  rw[k.old m hm.2,h.old m hm.1]
 ·rw[Q21,List.nodup_append]
  exact⟨h.nd,k.nd,fun a ha b hb e=>hLM a ha (e▸hb)⟩
def CloneQ (ou:Outer)(l:List Int)(r:FV)(ou':Outer):Prop:=∃nb,ownB nb l/\r=.one (bC nb l)/\NewO ou ou' (bO nb l)
theorem Qfg(l:List Int)(hl:l.length<=1048576)(ou:Outer):AFn Tryz.prog Γ 83 [.one (.sl 1 (l.map cI))] ou (CloneQ ou l):=by
 refine AFn.walk 8 tabOk Tryz.func83 rfl (by kernel_rfl) rfl rfl fun hou=>?_
 refine zA ?_
 refine AOps.nilTest rfl rfl rfl rfl Tryz.underlying29 rfl rfl fun b hb=>?_
 refine zA ?_
 refine ACode.cond rfl (fun hb2=>?_) (fun hb2=>?_)
 ·have h0:l=[]:=by simpa using hb hb2
  subst h0
  refine zA ?_
  exact AFn.fin' rfl (.one (.nilS 1)) (by simp) hou ⟨none,fun _=>rfl,rfl,.nil hou⟩
 ·clear hb
  refine zA ?_
  refine zS (AStep.buildOwn0 (s:=1) tabOk rfl rfl rfl rfl rfl) ?_
  refine zA ?_
  by_cases h0:l=[]
  ·subst h0
   refine zS (AStep.appNone tabOk rfl rfl rfl rfl rfl rfl) ?_
   refine zA ?_
   exact AFn.fin' rfl (.one (Wk.arr0 _ _ _)) (by simp) hou ⟨none,fun _=>rfl,rfl,.nil hou⟩
  ·refine AOps.appOwn tabOk rfl rfl rfl rfl rfl rfl rfl rfl rfl (.own 1 0 [] (.l 0) rfl (by simp) (by simp)) (.sl 1 (l.map cI)) (by simpa using h0) rfl (by simp;show _ * 8<=_;omega) (by simp;omega) fun cap hc=>?_
   simp only[List.nil_append]at hc ⊢
   refine AOps.cedes [1] rfl (by decide) hou fun k hk=>⟨[(7,.one (.arr (.o k) 1 0 (l.map cI).length cap))],[],[.cells (vec 1 (l.map cI) cap)],.cons rfl rfl .nil,.nil,.cons rfl ?_ .nil,?_⟩
   ·exact AObj.sub_f (fun i hi=>by cases i with|l q=>exact hi.elim|o q=>rfl) _ (show idsL isO (vec 1 (l.map cI) cap)from Qib _ _ _)
   have hk':∀m,k<=m->ou m=none:=hk
   have hok:OuOk (ouAdd ou k [.cells (vec 1 (l.map cI) cap)]):=Qhr hou fun o ho=>by simp at ho;subst ho;exact Qib _ _ _
   refine zA ?_
   refine AFn.fin' rfl (WkF.ofEq rfl) (by simp) hok ⟨some (k,cap),(fun h=>by cases h),rfl,fun p hp=>?_,fun j hj=>?_,fun m hm=>?_,hok,by simp[bO,keys]⟩
   ·simp[bO]at hp;subst hp
    exact Q42 0
   ·simp[bO,keys]at hj;subst hj;exact hk' _ (Nat.le_refl _)
   ·simp[bO,keys]at hm
    show ouAdd ou k [.cells (vec 1 (l.map cI) cap)] m=ou m
    rcases Nat.lt_or_ge m k with h1|h1
    ·exact Q6f h1
    ·obtain⟨p,rfl⟩:∃p,m=k+p:=⟨m - k,by omega⟩
     rw[Q42,hk' _ h1]
     cases p with
     |zero=>simp at hm
     |succ p=>simp
end Go.Proofs.YtpaonemmbhbgoaaGreatDoor
namespace Go.CoreX
theorem Qiu:∀{e f:List Ex},e.map (·.kids)=f.map (·.kids)->∀i,cnt e i=cnt f i
 |[],[],_,_=>rfl
 |[],_::_,h,_=>by simp at h
 |_::_,[],h,_=>by simp at h
 |x::e,y::f,h,i=>by
  simp only[List.map_cons,List.cons.injEq]at h
  simp only[cnt,h.1,Qiu h.2 i]
def ixE (e:List Ex):List Ex:=e.mapIdx fun i x=>{ x with n:=(i:Nat) }
theorem Q9h{e:List Ex}{i:Nat}:(ixE e)[i]?=(e[i]?).map fun x=>{ x with n:=(i:Nat) }:=by simp[ixE]
theorem Qny(e:List Ex):(ixE e).map (·.kids)=e.map (·.kids):=by
 apply List.ext_getElem?
 intro i
 simp only[List.getElem?_map,Q9h]
 cases e[i]? <;> rfl
theorem Qcl(e:List Ex):(ixE e).length=e.length:=by simp[ixE]
theorem Qnx{e:List Ex}(h:IsTree e):IsTree (ixE e):=by
 refine⟨fun e0=>h.ne (by have:=Qcl e;rw[e0]at this;exact List.length_eq_zero_iff.1 (by simpa using this.symm)),fun j x hx=>?_,fun i hi=>?_⟩
 ·rw[Q9h]at hx
  cases he:e[j]? with
  |none=>rw[he]at hx;cases hx
  |some y=>
   rw[he]at hx
   simp at hx;subst hx
   exact h.k j y he
 ·rw[Qiu (Qny e),Qcl]
  exact h.c i (by rw[Qcl]at hi;exact hi)
theorem labs_n(e:List Ex):(labs e).map (·.n)=e.map (·.n):=by simp[labs,labE]
theorem ixE_n(e:List Ex):(ixE e).map (·.n)=(List.range e.length).map fun i:Nat=>(i:Int):=by
 apply List.ext_getElem?
 intro i
 simp only[List.getElem?_map,Q9h]
 by_cases h:i < e.length
 ·simp[h]
 ·simp[h]
end Go.CoreX
namespace Go.Proofs.YtpaonemmbhbgoaaGreatDoor
open Go Go.Abs Go.CoreX
def ownO:LTr->List (Nat×AObj)
 |.mk i o n nb b k a=>(bO nb b++aO a)++[(i,.cells [int o,int n,bC nb b,.sl 1 (kC k),.sl 2 (a.map lAlt)])]
theorem Q8c:∀(t:LTr)(p:Nat×AObj),p∈objs t↔p∈ownO t∨p∈objss t.kids
 |.mk i o n nb b k a,p=>by
  simp only[objs,ownO,LTr.kids,List.cons_append,List.mem_cons,List.mem_append,List.not_mem_nil,or_false]
  constructor
  ·rintro (h|(h|h)|h) <;> simp[h]
  ·rintro (((h|h)|h)|h) <;> simp[h]
theorem Qax(k:Nat):∀t:LTr,(keys (objs t)).count k=(keys (ownO t)).count k+(keys (objss t.kids)).count k
 |.mk i o n nb b ks a=>by
  simp only[objs,ownO,LTr.kids,keys,List.map_cons,List.map_append,List.cons_append,List.count_cons,List.count_append,List.map_nil,List.count_nil]
  omega
structure LinkL (e:List Ex)(lts:List LTr)(B:Nb->List Int->Prop:=ownB):Prop where
 len:lts.length=e.length
 at_:∀(i:Nat) (x:Ex),e[i]?=some x->∃id nb a,lts[i]?=some (.mk id x.op x.n nb x.binds (x.kids.map fun q=>lts.getD q.toNat default) a)/\a.map LAlt.er=x.alts/\B nb x.binds/\∀y∈a,B y.nb y.binds
theorem LinkL.nil{B:Nb->List Int->Prop}:LinkL [] [] B:=⟨rfl,fun i x h=>by simp at h⟩
theorem LinkL.snoc{B:Nb->List Int->Prop}{e:List Ex}{lts:List LTr}(h:LinkL e lts B)(hk:Q0p e){x:Ex}(hx:∀q∈x.kids,0<=q/\q < (e.length:Int)){id:Nat}{nb:Nb}{a:List LAlt}(ha:a.map LAlt.er=x.alts)(hb:B nb x.binds)(hab:∀y∈a,B y.nb y.binds):
  LinkL (e++[x]) (lts++[.mk id x.op x.n nb x.binds (x.kids.map fun q=>lts.getD q.toNat default) a]) B:=by
 have hgd:∀(q:Int),0<=q->q < (e.length:Int)->∀t,(lts++[t]).getD q.toNat default=lts.getD q.toNat default:=fun q h0 h1 t=>Q6n (by rw[h.len];omega)
 refine⟨by simp[h.len],fun i y hy=>?_⟩
 by_cases hi:i < e.length
 ·rw[List.getElem?_append_left hi]at hy
  obtain⟨id',nb',a',h1,h2,h3,h4⟩:=h.at_ i y hy
  refine⟨id',nb',a',?_,h2,h3,h4⟩
  rw[List.getElem?_append_left (by rw[h.len];exact hi),h1]
  congr 2
  refine List.map_congr_left fun q hq=>?_
  have:=hk i y hy q hq
  exact (hgd q this.1 (by omega) _).symm
 ·have hie:i=e.length:=by
   have:=(List.getElem?_eq_some_iff.1 hy).1
   simp at this;omega
  subst hie
  simp at hy
  subst hy
  refine⟨id,nb,a,?_,ha,hb,hab⟩
  rw[←h.len,List.getElem?_append_right (by simp)]
  simp only[Nat.sub_self,List.getElem?_cons_zero]
  congr 2
  exact List.map_congr_left fun q hq=>(hgd q (hx q hq).1 (hx q hq).2 _).symm
section
variable {e:List Ex}{lts:List LTr}{B:Nb->List Int->Prop}
theorem LinkL.getD(h:LinkL e lts B){i:Nat}{t:LTr}(ht:lts[i]?=some t):lts.getD i default=t:=by rw[List.getD_eq_getElem?_getD,ht];rfl
theorem LinkL.er(h:LinkL e lts B)(hk:Q0p e):∀(n i:Nat)(t:LTr),i < n->lts[i]?=some t->erT t=Q06 e i
 |0,i,t,hi,_=>by omega
 |n+1,i,t,hi,ht=>by
  have hil:i < e.length:=by rw[←h.len];exact (List.getElem?_eq_some_iff.1 ht).1
  obtain⟨x,hx⟩:=Q00 hil
  obtain⟨id,nb,a,h1,h2,_⟩:=h.at_ i x hx
  rw[ht]at h1
  cases h1
  rw[Q2d hk hx]
  simp only[erT,h2,Q0t,List.map_map]
  congr 1
  refine List.map_congr_left fun q hq=>?_
  have hq':=hk i x hx q hq
  obtain⟨t',ht'⟩:=Q00 (l:=lts) (i:=q.toNat) (by rw[h.len];omega)
  simp only[Function.comp,h.getD ht']
  exact h.er hk n q.toNat t' (by omega) ht'
theorem LinkL.own(h:LinkL e lts B)(hk:Q0p e):∀(n i:Nat)(t:LTr),i < n->lts[i]?=some t->∀p∈objs t,p∈lts.flatMap ownO
 |0,i,t,hi,_=>by omega
 |n+1,i,t,hi,ht=>fun p hp=>by
  have hil:i < e.length:=by rw[←h.len];exact (List.getElem?_eq_some_iff.1 ht).1
  obtain⟨x,hx⟩:=Q00 hil
  obtain⟨id,nb,a,h1,_⟩:=h.at_ i x hx
  rw[ht]at h1
  rcases (Q8c t p).1 hp with hp|hp
  ·exact List.mem_flatMap.2 ⟨t,List.mem_of_getElem? ht,hp⟩
  ·cases h1
   simp only[LTr.kids,Q4a]at hp
   obtain⟨u,hu,hpu⟩:=List.mem_flatMap.1 hp
   obtain⟨q,hq,rfl⟩:=List.mem_map.1 hu
   have hq':=hk i x hx q hq
   obtain⟨t',ht'⟩:=Q00 (l:=lts) (i:=q.toNat) (by rw[h.len];omega)
   rw[h.getD ht']at hpu
   exact h.own hk n q.toNat t' (by omega) ht' p hpu
def ownC (lts:List LTr)(k:Nat)(l:Lab):Int:=((keys (ownO (lts.getD l.n.toNat default))).count k:Nat)
theorem Q98(k:Nat):∀l:List LTr,(((keys (objss l)).count k:Nat):Int)=(l.map fun t=>(((keys (objs t)).count k:Nat):Int)).sum
 |[]=>by simp[objss,keys]
 |t::l=>by
  have:=Q98 k l
  simp only[keys]at this
  simp only[objss,keys,List.map_append,List.count_append,List.map_cons,List.sum_cons,←this]
  push_cast;rfl
theorem LinkL.count(h:LinkL e lts B)(hk:Q0p e)(k:Nat):∀(n i:Nat)(t:LTr),i < n->lts[i]?=some t->sumT (ownC lts k) (Q06 (ixE e) i)=((keys (objs t)).count k:Nat)
 |0,i,t,hi,_=>by omega
 |n+1,i,t,hi,ht=>by
  have hil:i < e.length:=by rw[←h.len];exact (List.getElem?_eq_some_iff.1 ht).1
  obtain⟨x,hx⟩:=Q00 hil
  obtain⟨id,nb,a,h1,_⟩:=h.at_ i x hx
  rw[ht]at h1
  have hki:Q0p (ixE e):=fun j y hy=>by
   rw[Q9h]at hy
   cases he:e[j]? with
   |none=>rw[he]at hy;cases hy
   |some z=>
    rw[he]at hy
    simp at hy;subst hy
    exact hk j z he
  have hxi:(ixE e)[i]?=some { x with n:=(i:Nat) }:=by rw[Q9h,hx];rfl
  rw[Q2d hki hxi]
  simp only[sumT,Q86,List.map_map]
  rw[Qax]
  have e1:ownC lts k ⟨x.op,(i:Nat),x.binds,x.kids.map (Tr.op∘fun k=>Q06 (ixE e) k.toNat),x.alts⟩=((keys (ownO t)).count k:Nat):=by
   unfold ownC
   simp only[Int.toNat_natCast,h.getD ht]
  have e2:(x.kids.map (sumT (ownC lts k)∘fun k=>Q06 (ixE e) k.toNat)).sum=((keys (objss t.kids)).count k:Nat):=by
   rw[Q98]
   cases h1
   simp only[LTr.kids,List.map_map]
   congr 1
   refine List.map_congr_left fun q hq=>?_
   have hq':=hk i x hx q hq
   obtain⟨t',ht'⟩:=Q00 (l:=lts) (i:=q.toNat) (by rw[h.len];omega)
   simp only[Function.comp,h.getD ht']
   exact h.count hk k n q.toNat t' (by omega) ht'
  rw[e1,e2]
  push_cast;rfl
theorem Qbc(k:Nat):∀lts:List LTr,(((keys (lts.flatMap ownO)).count k:Nat):Int)=(lts.map fun t=>(((keys (ownO t)).count k:Nat):Int)).sum
 |[]=>by simp[keys]
 |t::l=>by
  have:=Qbc k l
  simp only[keys]at this
  simp only[List.flatMap_cons,keys,List.map_append,List.count_append,List.map_cons,List.sum_cons,←this]
  push_cast;rfl
theorem LinkL.nodup(h:LinkL e lts B)(ht:IsTree e)(hn:(keys (lts.flatMap ownO)).Nodup){t:LTr}(hr:lts[e.length - 1]?=some t):(keys (objs t)).Nodup:=by
 rw[List.nodup_iff_count]
 intro k
 have h1:=h.count ht.k k _ _ t (Nat.lt_succ_self _) hr
 have h2:=Q32 (ownC lts k) (Qnx ht)
 have h3:grow (ixE e)=Q06 (ixE e) (e.length - 1):=by unfold grow Q06;rw[Qcl]
 rw[h3,h1]at h2
 have h4:((labs (ixE e)).map (ownC lts k))=lts.map fun t=>(((keys (ownO t)).count k:Nat):Int):=by
  have e1:(labs (ixE e)).map (ownC lts k)=((labs (ixE e)).map (·.n)).map fun n:Int=>(((keys (ownO (lts.getD n.toNat default))).count k:Nat):Int):=by
   rw[List.map_map];rfl
  rw[e1,labs_n,ixE_n,List.map_map]
  apply List.ext_getElem?
  intro i
  by_cases hi:i < e.length
  ·obtain⟨t',ht'⟩:=Q00 (l:=lts) (i:=i) (by rw[h.len];exact hi)
   simp only[List.getElem?_map,List.getElem?_range hi,Option.map_some,Function.comp,Int.toNat_natCast,h.getD ht',ht']
  ·rw[List.getElem?_eq_none (by simp;omega),List.getElem?_eq_none (by simp[h.len];omega)]
 rw[h4,←Qbc]at h2
 have h5:=List.nodup_iff_count.1 hn k
 omega
theorem LinkL.ok(h:LinkL e lts)(hk:Q0p e)(hs:∀x∈e,x.binds.length<=1048576/\x.kids.length<=1048576/\x.alts.length<=1048576/\∀a∈x.alts,a.binds.length<=1048576):∀(n i:Nat)(t:LTr),i < n->lts[i]?=some t->okL t
 |0,i,t,hi,_=>by omega
 |n+1,i,t,hi,ht=>by
  have hil:i < e.length:=by rw[←h.len];exact (List.getElem?_eq_some_iff.1 ht).1
  obtain⟨x,hx⟩:=Q00 hil
  obtain⟨id,nb,a,h1,h2,h3,h4⟩:=h.at_ i x hx
  obtain⟨s1,s2,s3,s4⟩:=hs x (List.mem_of_getElem? hx)
  rw[ht]at h1
  cases h1
  refine⟨fun _=>h3,s1,by simpa using s2,by have:=congrArg List.length h2;simp at this;omega,fun y hy=>⟨h4 y hy,?_⟩,Qht.2 fun u hu=>?_⟩
  ·exact s4 y.er (by rw[←h2];exact List.mem_map_of_mem hy)
  ·obtain⟨q,hq,rfl⟩:=List.mem_map.1 hu
   have hq':=hk i x hx q hq
   obtain⟨t',ht'⟩:=Q00 (l:=lts) (i:=q.toNat) (by rw[h.len];omega)
   rw[h.getD ht']
   exact h.ok hk hs n q.toNat t' (by omega) ht'
end
variable {Γ:List (Nat×List AC)}
def Q19 (ts:List LTr)(n:Nat):List AC:=ts.map (fun t=>.ptr (.o t.id) 0)++List.replicate (n - ts.length) (.lit (.pointer none))
theorem Qjh(n:Nat):Q19 [] n=List.replicate n (.lit (.pointer none)):=by simp[Q19]
theorem Qji{ts:List LTr}{n:Nat}(h:ts.length<=n):(Q19 ts n).length=n:=by simp[Q19];omega
theorem Q7b{ts:List LTr}{n k:Nat}{t:LTr}(h:ts[k]?=some t):(Q19 ts n)[k]?=some (.ptr (.o t.id) 0):=by
 have hk:=(List.getElem?_eq_some_iff.1 h).1
 unfold Q19
 rw[List.getElem?_append_left (by simpa using hk)]
 simp[h]
theorem Qjg{ts:List LTr}{n:Nat}(h:ts.length < n)(t:LTr):(Q19 ts n).set ts.length (.ptr (.o t.id) 0)=Q19 (ts++[t]) n:=by
 unfold Q19
 rw[List.set_append_right _ _ (by simp)]
 simp only[List.length_map,Nat.sub_self,List.map_append,List.map_cons,List.map_nil,List.append_assoc,List.length_append,List.length_singleton]
 congr 1
 rw[show n - ts.length=(n - (ts.length+1))+1 by omega,List.replicate_succ]
 rfl
theorem Qb7(p:Abs.Id->Prop)(hp:∀k,p (.o k))(ts:List LTr)(n:Nat):idsL p (Q19 ts n):=by
 refine Q8f ?_ (Qly p _ _)
 induction ts with
 |nil=>trivial
 |cons t ts ih=>exact⟨hp _,ih⟩
@[simp] theorem ids_nodesL_l (k:Nat) (ts:List LTr) (n:Nat):idsL (inL k) (Q19 ts n):=Qb7 _ (fun _=>trivial) ts n
@[simp] theorem Qeh (ts:List LTr) (n:Nat):idsL isO (Q19 ts n):=Qb7 _ (fun _=>trivial) ts n
theorem Qck(l:List LTr)(t:LTr):kC (l++[t])=kC l++[[.ptr (.o t.id) 0]]:=by simp[kC]
def kidsL (ts:List LTr)(ks:List Int):List LTr:=ks.map fun k=>ts.getD k.toNat default
theorem Qb3{ts:List LTr}{ks:List Int}{i:Nat}{k:Int}(h:ks[i]?=some k):kidsL ts (ks.take (i+1))=kidsL ts (ks.take i)++[ts.getD k.toNat default]:=by
 simp[kidsL,List.take_add_one,h]
@[simp] theorem ids_kC_l (k:Nat) (ts:List LTr):idsS (inL k) (kC ts):=Qie _ (fun _=>trivial) ts
@[simp] theorem Qid (ts:List LTr):idsS isO (kC ts):=Qie _ (fun _=>trivial) ts
@[simp] theorem ids_lAlts_l (k:Nat) (l:List LAlt):idsS (inL k) (l.map lAlt):=Q6j _ (fun _=>trivial) l
@[simp] theorem Qg4 (l:List LAlt):idsS isO (l.map lAlt):=Q6j _ (fun _=>trivial) l
@[simp] theorem ids_bC_l (k:Nat) (nb:Nb) (l:List Int):(bC nb l).ids (inL k):=Qek _ (fun _=>trivial) nb l
@[simp] theorem ids_bC_o (nb:Nb) (l:List Int):(bC nb l).ids isO:=Qek _ (fun _=>trivial) nb l
@[simp] theorem Qdv (ρ:Nat->Nat) (l:List LTr):renS ρ (kC l)=kC l:=Q1w ρ _ (Qid l)
@[simp] theorem Qdu (ρ:Nat->Nat) (l:List LAlt):renS ρ (l.map lAlt)=l.map lAlt:=Q1w ρ _ (Qg4 l)
@[simp] theorem ren_bC (ρ:Nat->Nat) (nb:Nb) (l:List Int):(bC nb l).ren ρ=bC nb l:=by cases nb <;> simp[bC,AC.ren,Abs.Id.ren]
theorem NewO.add{ou:Outer}{k:Nat}{o:AObj}(hk:∀m,k<=m->ou m=none)(hou:OuOk ou)(ho:o.ids isO):NewO ou (ouAdd ou k [o]) [(k,o)]:=by
 refine⟨fun p hp=>?_,fun j hj=>?_,fun m hm=>?_,Qhr hou fun q hq=>by simp at hq;subst hq;exact ho,by simp[keys]⟩
 ·simp at hp;subst hp
  exact Q42 0
 ·simp[keys]at hj;subst hj;exact hk _ (Nat.le_refl _)
 ·simp[keys]at hm
  rcases Nat.lt_or_ge m k with h1|h1
  ·exact Q6f h1
  ·obtain⟨p,rfl⟩:∃p,m=k+p:=⟨m - k,by omega⟩
   rw[Q42,hk _ h1]
   cases p with
   |zero=>simp at hm
   |succ p=>simp
def GrowQ (e:List Ex)(ou:Outer)(r:FV)(ou':Outer):Prop:=∃t:LTr,r=.one (.ptr (.o t.id) 0)/\erT t=grow e/\okL t/\Owns ou' (objs t)/\(keys (objs t)).Nodup/\(∀k∈keys (objs t),ou k=none)/\OuOk ou'/\∀j o,ou j=some o->ou' j=some o
set_option maxHeartbeats 1000000 in
theorem Qop(hΓ:∀g cs,(g,cs)∈Γ->idsL isO cs)(e:List Ex)(he:okE e)(hin:Q0p e)(hT:IsTree e)(ou:Outer):AFn Tryz.prog Γ 54 [.one (.sl 5 (e.map cEx))] ou (GrowQ e ou):=by
 have hel:=he.l
 refine AFn.walk 85 tabOk Tryz.func54 rfl (by kernel_rfl) rfl rfl fun hou=>?_
 refine zA ?_
 have hb:ti81.bytes * (e.map cEx).length<=281474976710656:=by simp;show 8 * _<=_;omega
 have hb2:(e.map cEx).length<=281474976710656:=by simp;omega
 refine zS (AStep.makeArr tabOk rfl rfl rfl rfl rfl rfl rfl rfl hb hb2) ?_
 refine zA ?_
 refine ACode.loopR hΓ (α:=Nat×List LTr×Outer) (fun c=>[(16,.one (int c.1)),(15,.one (int (e.map cEx).length)),(14,.one (.sl 5 (e.map cEx))),(3,.one (.arr (.l 0) 1 0 (e.map cEx).length (e.map cEx).length)),(0,.one (.sl 5 (e.map cEx)))])
  (fun c=>⟨1,[(0,.cells (Q19 c.2.1 (e.map cEx).length))],c.2.2⟩) (fun m c=>c.1<=e.length/\(LinkL (e.take c.1) c.2.1/\NewO ou c.2.2 (c.2.1.flatMap ownO))/\m=e.length - c.1) (a0:=(0,[],ou)) (ρ:=id) ⟨by omega,⟨LinkL.nil,.nil hou⟩,rfl⟩
  (LessR.of rfl zFS (by simp) (LoSub.cons rfl (by rw[AObj.ren_pure _ _ (by simp)];show AObj.cells (List.replicate _ _)=AObj.cells (Q19 [] _);rw[Qjh]) rfl (by simp) .nil) rfl rfl hou) fun m c hc=>?_
 obtain⟨j,lts,ov⟩:=c
 obtain⟨hjl,⟨hL,hN⟩,rfl⟩:=hc
 dsimp only at hjl hL hN
 have hov:=hN.ok
 refine zA ?_
 refine ACode.cond rfl (fun hb2=>?_) (fun hb2=>?_)
 ·have hlt:j < e.length:=by simpa using hb2
  obtain⟨x,hx⟩:=Q00 hlt
  have hxo:=he.x x (List.mem_of_getElem? hx)
  have hxk:=hxo.k
  have hxa:=hxo.a
  have hxin:=hin j x hx
  have hgl:lts.length=j:=by rw[hL.len];simp;omega
  refine zA ?_
  refine zS (zIA rfl rfl rfl (by omega) (Q05 hx)) ?_
  refine zA ?_
  refine ACode.drawC tabOk 9 [6,7,8] [] (fun vs σ=>match vs with
    |[]=>σ=⟨2,[(1,.cells (cEx x)),(1,.cells (ti57.zero.map .lit)),(0,.cells (Q19 lts (e.map cEx).length))],ov⟩
    |[a]=>∃nb ow,ownB nb x.binds/\NewO ov ow (bO nb x.binds)/\a=.one (bC nb x.binds)/\σ=⟨2,[(1,.cells (cEx x)),(1,.cells (ti57.zero.map .lit)),(0,.cells (Q19 lts (e.map cEx).length))],ow⟩
    |[a,b]=>∃nb ow,ownB nb x.binds/\NewO ov ow (bO nb x.binds)/\a=.one (bC nb x.binds)/\b=.agg [int x.op,int x.n,bC nb x.binds,.lit (.slice none 0 0),.lit (.slice none 0 0)]/\σ=⟨2,[(1,.cells (cEx x)),(1,.cells (ti57.zero.map .lit)),(0,.cells (Q19 lts (e.map cEx).length))],ow⟩
    |[a,b,c]=>∃nb ow,ownB nb x.binds/\NewO ov ow (bO nb x.binds)/\a=.one (bC nb x.binds)/\b=.agg [int x.op,int x.n,bC nb x.binds,.lit (.slice none 0 0),.lit (.slice none 0 0)]/\c=.one (.ptr (.l 2) 0)/\σ=⟨3,[(2,.cells [int x.op,int x.n,bC nb x.binds,.lit (.slice none 0 0),.lit (.slice none 0 0)]),(1,.cells (cEx x)),(1,.cells (ti57.zero.map .lit)),(0,.cells (Q19 lts (e.map cEx).length))],ow⟩
    |_=>False) follows (by kernel_rfl) rfl rfl (by decide) (by kernel_rfl) (by kernel_rfl) rfl rfl ?_ (fun _ _ _=>.nil) (by decide) ?_ ?_
  ·rintro vs σ hG
   match vs,hG with
   |[],hG=>subst hG;rfl
   |[a],hG=>obtain⟨nb,ow,_,_,_,rfl⟩:=hG;rfl
   |[a,b],hG=>obtain⟨nb,ow,_,_,_,_,rfl⟩:=hG;rfl
   |[a,b,c],hG=>obtain⟨nb,ow,_,_,_,_,_,rfl⟩:=hG;rfl
  ·rintro vs σ hG i o hi ho
   match vs,hG with
   |[],hG=>
    subst hG
    cases hi
    cases ho
    refine⟨rfl,rfl,.inr ⟨rfl,Q13.call hΓ rfl rfl rfl rfl (by simp) hov (Qfg x.binds hxo.b ov) fun r ow hq _ _=>?_⟩⟩
    obtain⟨nb,h1,rfl,h2⟩:=hq
    exact⟨nb,ow,h1,h2,rfl,rfl⟩
   |[a],hG=>
    obtain⟨nb,ow,h1,h2,rfl,rfl⟩:=hG
    cases hi
    cases ho
    exact⟨rfl,rfl,.inl ⟨_,_,HStep.auto tabOk rfl,nb,ow,h1,h2,rfl,rfl,rfl⟩⟩
   |[a,b],hG=>
    obtain⟨nb,ow,h1,h2,rfl,rfl,rfl⟩:=hG
    cases hi
    cases ho
    exact⟨rfl,rfl,.inl ⟨_,_,HStep.auto tabOk rfl,nb,ow,h1,h2,rfl,rfl,rfl,rfl⟩⟩
   |[a,b,c],hG=>cases hi
  rintro vs σ hlen hG
  match vs,hlen,hG with
  |[a,b,c],_,hG=>
  obtain⟨nb,ow,hnb,hNb,rfl,rfl,rfl,rfl⟩:=hG
  have how:=hNb.ok
  refine zA ?_
  refine ACode.grow 2 3 81 1 rfl rfl ?_
  refine ACode.loopR hΓ (α:=Nat) (fun i=>[(33,.one (int i)),(32,.one (int (x.kids.map cI).length)),(31,.one (.sl 1 (x.kids.map cI))),(6,.one (.ptr (.l 2) 0)),(5,.one (.ptr (.l 1) 0)),(4,.one (int j)),(16,.one (int j)),(15,.one (int (e.map cEx).length)),(14,.one (.sl 5 (e.map cEx))),(3,.one (.arr (.l 0) 1 0 (e.map cEx).length (e.map cEx).length)),(0,.one (.sl 5 (e.map cEx)))])
   (fun i=>⟨4,[(3,.tok 81 1 i),(2,.cells [int x.op,int x.n,bC nb x.binds,.gs 1 (kC (kidsL lts (x.kids.take i))) (.l 3),.lit (.slice none 0 0)]),(1,.cells (cEx x)),(0,.cells (Q19 lts (e.map cEx).length))],ow⟩)
   (fun m i=>i<=x.kids.length/\m=x.kids.length - i) (a0:=0) (ρ:=id) ⟨by omega,rfl⟩ (LessR.of rfl zFS (by simp) ?_ rfl rfl how) fun m i hi=>?_
  ·repeat' first|exact LoSub.nil|refine zlc ?_|refine zld ?_ ?_|rfl
   all_goals (simp[AObj.ren,renL,AC.ren,kidsL];exact⟨rfl,rfl⟩)
  obtain⟨hil,rfl⟩:=hi
  refine zA ?_
  refine ACode.cond rfl (fun hb3=>?_) (fun hb3=>?_)
  ·have hlt2:i < x.kids.length:=by simpa using hb3
   obtain⟨k,hk⟩:=Q00 hlt2
   have hkb:=hxin k (List.mem_of_getElem? hk)
   obtain⟨k',rfl⟩:∃k':Nat,k=k':=⟨k.toNat,by omega⟩
   obtain⟨tk,htk⟩:=Q00 (l:=lts) (i:=k') (by omega)
   have htd:(lts).getD (k':Int).toNat default=tk:=by rw[Int.toNat_natCast,List.getD_eq_getElem?_getD,htk];rfl
   have hks:=Qb3 (ts:=lts) hk
   rw[htd]at hks
   have hkl:(kC (kidsL lts (x.kids.take i))).length=i:=by simp[kC,kidsL];omega
   refine zA ?_
   refine zS (zIA rfl rfl rfl (by omega) (Q05 hk)) ?_
   refine zA ?_
   refine ACode.drawXH (va:=.one (.gs 1 (kC (kidsL lts (x.kids.take i))++[[AC.ptr (.o tk.id) 0]]) (.l 4))) (σ1:=((St.mk 4 [(3,.tok 81 1 i),(2,.cells [int x.op,int x.n,bC nb x.binds,.gs 1 (kC (kidsL lts (x.kids.take i))) (.l 3),.lit (.slice none 0 0)]),(1,.cells (cEx x)),(0,.cells (Q19 lts (e.map cEx).length))] ow).set (.l 3) .dead).push (.tok 81 1 (kC (kidsL lts (x.kids.take i))++[[AC.ptr (.o tk.id) 0]]).length))
    tabOk 11 10 [(7,.one (.ptr (.l 0) k')),(8,.one (.ptr (.o tk.id) 0))] follows (by kernel_rfl) rfl rfl rfl rfl rfl rfl rfl ?_ ?_ ?_ ?_
   ·refine HStep.plain rfl (AStep.append (s:=1) (es:=kC (kidsL lts (x.kids.take i))) (news:=[[AC.ptr (.o tk.id) 0]]) (ti:=ti103) (σ:=⟨4,[(3,.tok 81 1 i),(2,.cells [int x.op,int x.n,bC nb x.binds,.gs 1 (kC (kidsL lts (x.kids.take i))) (.l 3),.lit (.slice none 0 0)]),(1,.cells (cEx x)),(0,.cells (Q19 lts (e.map cEx).length))],ow⟩) tabOk rfl rfl rfl rfl rfl rfl (Base.gs' _ 81 1 (kC (kidsL lts (x.kids.take i))) (.l 3) rfl hkl.symm) (.sl _ _) rfl ?_ ?_)
    ·rw[hkl];show (i+1) * 8<=_;omega
    ·rw[hkl];show i+1<=_;omega
   ·refine .step rfl (zHP (idxI tabOk rfl rfl rfl rfl rfl rfl rfl (by simp;omega))) ?_
    exact .step rfl (zHP (zLD rfl rfl rfl (Q7b htk))) .nil
   ·refine .step rfl (zHP (idxI tabOk rfl rfl rfl rfl rfl rfl rfl (by simp;omega))) ?_
    exact .step rfl (zHP (zLD rfl rfl rfl (Q7b htk))) .nil
   refine zM ?_
   refine cInv ⟨x.kids.length - (i+1),i+1,fun k=>if k=3 then 4 else k,by omega,⟨by omega,rfl⟩,LessR.of rfl zFS (by simp) ?_ rfl rfl how⟩
   repeat' first|exact LoSub.nil|refine zlc ?_|refine zld ?_ ?_|rfl
   ·simp only[AObj.ren,List.length_append,hkl];rfl
   ·rw[hks,Qck];simp only[AObj.ren,renL,AC.ren,ren_bC];rw[←Qck,Qdv];rfl
  have hlt2:i=x.kids.length:=by simp at hb3;omega
  subst hlt2
  rw[List.take_length]
  refine zA ?_
  refine ACode.grow 2 4 46 2 rfl rfl ?_
  refine ACode.loopR hΓ (α:=Nat×Outer×List LAlt) (fun c=>[(54,.one (int c.1)),(53,.one (int (x.alts.map cAlt).length)),(52,.one (.sl 2 (x.alts.map cAlt))),(6,.one (.ptr (.l 2) 0)),(4,.one (int j)),(16,.one (int j)),(15,.one (int (e.map cEx).length)),(14,.one (.sl 5 (e.map cEx))),(3,.one (.arr (.l 0) 1 0 (e.map cEx).length (e.map cEx).length)),(0,.one (.sl 5 (e.map cEx)))])
   (fun c=>⟨5,[(4,.tok 46 2 c.1),(2,.cells [int x.op,int x.n,bC nb x.binds,.gs 1 (kC (kidsL lts x.kids)) (.l 3),.gs 2 (c.2.2.map lAlt) (.l 4)]),(0,.cells (Q19 lts (e.map cEx).length))],c.2.1⟩)
   (fun m c=>c.1<=x.alts.length/\(c.2.2.map LAlt.er=x.alts.take c.1/\(∀y∈c.2.2,ownB y.nb y.binds)/\NewO ow c.2.1 (aO c.2.2))/\m=x.alts.length - c.1) (a0:=(0,ow,[])) (ρ:=id) ⟨by omega,⟨rfl,by simp,.nil how⟩,rfl⟩ (LessR.of rfl zFS (by simp) ?_ rfl rfl how) fun m c hc=>?_
  ·repeat' first|exact LoSub.nil|refine zlc ?_|refine zld ?_ ?_|rfl
   all_goals (simp[AObj.ren,renL,AC.ren];exact⟨rfl,rfl⟩)
  obtain⟨i,oy,la⟩:=c
  obtain⟨hil,⟨hla,hlo,hNa⟩,rfl⟩:=hc
  dsimp only at hil hla hlo hNa
  have hoy:=hNa.ok
  have hll:la.length=i:=by have:=congrArg List.length hla;simp at this;omega
  have hal:(la.map lAlt).length=i:=by simp[hll]
  refine zA ?_
  refine ACode.cond rfl (fun hb3=>?_) (fun hb3=>?_)
  ·have hlt2:i < x.alts.length:=by simpa using hb3
   obtain⟨a,ha⟩:=Q00 hlt2
   refine zA ?_
   refine zS (zIA rfl rfl rfl (by omega) (Q05 ha)) ?_
   refine zA ?_
   refine ACode.drawC tabOk 13 [9,10,11,12] [] (fun vs σ=>match vs with
     |[]=>σ=⟨6,[(5,.cells (cAlt a)),(5,.cells (ti46.zero.map .lit)),(4,.tok 46 2 i),(2,.cells [int x.op,int x.n,bC nb x.binds,.gs 1 (kC (kidsL lts x.kids)) (.l 3),.gs 2 (la.map lAlt) (.l 4)]),(0,.cells (Q19 lts (e.map cEx).length))],oy⟩
     |[q1]=>∃nc oz,ownB nc a.binds/\NewO oy oz (bO nc a.binds)/\q1=.one (bC nc a.binds)/\σ=⟨6,[(5,.cells (cAlt a)),(5,.cells (ti46.zero.map .lit)),(4,.tok 46 2 i),(2,.cells [int x.op,int x.n,bC nb x.binds,.gs 1 (kC (kidsL lts x.kids)) (.l 3),.gs 2 (la.map lAlt) (.l 4)]),(0,.cells (Q19 lts (e.map cEx).length))],oz⟩
     |[q1,q2]=>∃nc oz,ownB nc a.binds/\NewO oy oz (bO nc a.binds)/\q1=.one (bC nc a.binds)/\q2=.agg [int a.tag,bC nc a.binds]/\σ=⟨6,[(5,.cells (cAlt a)),(5,.cells (ti46.zero.map .lit)),(4,.tok 46 2 i),(2,.cells [int x.op,int x.n,bC nb x.binds,.gs 1 (kC (kidsL lts x.kids)) (.l 3),.gs 2 (la.map lAlt) (.l 4)]),(0,.cells (Q19 lts (e.map cEx).length))],oz⟩
     |[q1,q2,q3]=>∃nc oz,ownB nc a.binds/\NewO oy oz (bO nc a.binds)/\q1=.one (bC nc a.binds)/\q2=.agg [int a.tag,bC nc a.binds]/\q3=.one (.sl 2 [[int a.tag,bC nc a.binds]])/\σ=⟨6,[(5,.cells (cAlt a)),(5,.cells (ti46.zero.map .lit)),(4,.tok 46 2 i),(2,.cells [int x.op,int x.n,bC nb x.binds,.gs 1 (kC (kidsL lts x.kids)) (.l 3),.gs 2 (la.map lAlt) (.l 4)]),(0,.cells (Q19 lts (e.map cEx).length))],oz⟩
     |[q1,q2,q3,q4]=>∃nc oz,ownB nc a.binds/\NewO oy oz (bO nc a.binds)/\q1=.one (bC nc a.binds)/\q2=.agg [int a.tag,bC nc a.binds]/\q3=.one (.sl 2 [[int a.tag,bC nc a.binds]])/\q4=.one (.gs 2 (la.map lAlt++[[int a.tag,bC nc a.binds]]) (.l 6))/\σ=⟨7,[(6,.tok 46 2 (la.map lAlt++[[int a.tag,bC nc a.binds]]).length),(4,.dead),(5,.cells (cAlt a)),(5,.cells (ti46.zero.map .lit)),(4,.tok 46 2 i),(2,.cells [int x.op,int x.n,bC nb x.binds,.gs 1 (kC (kidsL lts x.kids)) (.l 3),.gs 2 (la.map lAlt) (.l 4)]),(0,.cells (Q19 lts (e.map cEx).length))],oz⟩
     |_=>False) follows (by kernel_rfl) rfl rfl (by decide) (by kernel_rfl) (by kernel_rfl) rfl rfl ?_ (fun _ _ _=>.nil) (by decide) ?_ ?_
   ·rintro vs σ hG
    match vs,hG with
    |[],hG=>subst hG;rfl
    |[_],hG=>obtain⟨nc,oz,_,_,_,rfl⟩:=hG;rfl
    |[_,_],hG=>obtain⟨nc,oz,_,_,_,_,rfl⟩:=hG;rfl
    |[_,_,_],hG=>obtain⟨nc,oz,_,_,_,_,_,rfl⟩:=hG;rfl
    |[_,_,_,_],hG=>obtain⟨nc,oz,_,_,_,_,_,_,rfl⟩:=hG;rfl
   ·rintro vs σ hG q o hi ho
    match vs,hG with
    |[],hG=>
     subst hG
     cases hi
     cases ho
     refine⟨rfl,rfl,.inr ⟨rfl,Q13.call hΓ rfl rfl rfl rfl (by simp) hoy (Qfg a.binds (hxo.ab a (List.mem_of_getElem? ha)) oy) fun r oz hq _ _=>?_⟩⟩
     obtain⟨nc,h1,rfl,h2⟩:=hq
     exact⟨nc,oz,h1,h2,rfl,rfl⟩
    |[_],hG=>
     obtain⟨nc,oz,h1,h2,rfl,rfl⟩:=hG
     cases hi
     cases ho
     exact⟨rfl,rfl,.inl ⟨_,_,HStep.auto tabOk rfl,nc,oz,h1,h2,rfl,rfl,rfl⟩⟩
    |[_,_],hG=>
     obtain⟨nc,oz,h1,h2,rfl,rfl,rfl⟩:=hG
     cases hi
     cases ho
     exact⟨rfl,rfl,.inl ⟨_,_,HStep.auto tabOk rfl,nc,oz,h1,h2,rfl,rfl,rfl,rfl⟩⟩
    |[_,_,_],hG=>
     obtain⟨nc,oz,h1,h2,rfl,rfl,rfl,rfl⟩:=hG
     cases hi
     cases ho
     refine⟨rfl,rfl,.inl ⟨_,_,HStep.plain rfl (AStep.append (s:=2) (es:=la.map lAlt) (news:=[[int a.tag,bC nc a.binds]]) (ti:=ti47) tabOk rfl rfl rfl rfl rfl rfl (Base.gs' _ 46 2 (la.map lAlt) (.l 4) rfl hal.symm) (.sl _ _) rfl ?_ ?_),nc,oz,h1,h2,rfl,rfl,rfl,rfl,rfl⟩⟩
     ·rw[hal];show (i+1) * 32<=_;omega
     ·rw[hal];show i+1<=_;omega
    |[_,_,_,_],hG=>cases hi
   rintro vs σ hlen hG
   match vs,hlen,hG with
   |[_,_,_,_],_,hG=>
   obtain⟨nc,oz,hnc,hNc,rfl,rfl,rfl,rfl,rfl⟩:=hG
   refine zM ?_
   obtain⟨la',hla'⟩:∃la',la'=la++[⟨a.tag,nc,a.binds⟩]:=⟨_,rfl⟩
   have hlm:la.map lAlt++[[int a.tag,bC nc a.binds]]=la'.map lAlt:=by rw[hla',List.map_append];rfl
   refine cInv ⟨x.alts.length - (i+1),(i+1,oz,la'),fun k=>if k=4 then 6 else k,by omega,⟨by omega,⟨by rw[hla',List.map_append,hla,Q11 ha];rfl,?_,?_⟩,rfl⟩,LessR.of rfl zFS (by simp) ?_ rfl rfl hNc.ok⟩
   ·intro y hy
    rw[hla']at hy
    rcases List.mem_append.1 hy with hy|hy
    ·exact hlo y hy
    ·simp at hy;subst hy;exact hnc
   ·dsimp only
    rw[hla',aO_app,show aO [⟨a.tag,nc,a.binds⟩]=bO nc a.binds by simp[aO]]
    exact hNa.trans hNc
   ·repeat' first|exact LoSub.nil|refine zlc ?_|refine zld ?_ ?_|rfl
    ·simp only[AObj.ren,List.length_append,hal];rfl
    ·simp only[hlm,AObj.ren,renL,AC.ren,ren_bC,Qdv,Qdu];rfl
  have hlt2:i=x.alts.length:=by simp at hb3;omega
  subst hlt2
  rw[List.take_length]at hla
  refine zA ?_
  refine zS (idxI tabOk rfl rfl rfl rfl rfl rfl rfl (by simp;omega)) ?_
  refine AOps.wkObj (.l 2) rfl (cs':=[int x.op,int x.n,bC nb x.binds,.sl 1 (kC (kidsL lts x.kids)),.sl 2 (la.map lAlt)]) (fun w C xs h=>?_) ?_
  ·exact (show WkL _ _ from .cons (.refl _) (.cons (.refl _) (.cons (.refl _) (.cons (.gsE rfl) (.cons (.gsE rfl) .nil))))) w C xs h
  have hθ:∀(k:Nat) (i:Abs.Id),isO i->toOs [2] k i=i:=fun k i hi=>by cases i with|l q=>exact hi.elim|o q=>rfl
  refine AOps.cedes [2] rfl (by decide) hoy fun k hk=>⟨[(77,.one (.ptr (.l 0) j)),(76,.one (.ptr (.o k) 0)),(16,.one (int j)),(15,.one (int (e.map cEx).length)),(14,.one (.sl 5 (e.map cEx))),(3,.one (.arr (.l 0) 1 0 (e.map cEx).length (e.map cEx).length)),(0,.one (.sl 5 (e.map cEx)))],
   [(0,.cells (Q19 lts (e.map cEx).length))],[.cells [int x.op,int x.n,bC nb x.binds,.sl 1 (kC (kidsL lts x.kids)),.sl 2 (la.map lAlt)]],?_,?_,?_,?_⟩
  ·exact .cons rfl rfl (.cons rfl rfl (.cons rfl rfl (.cons rfl rfl (.cons rfl (FV.sub_f (hθ k) _ (by simp)) (.cons rfl rfl (.cons rfl (FV.sub_f (hθ k) _ (by simp)) .nil))))))
  ·exact .cons rfl rfl (AObj.sub_f (hθ k) _ (Qeh _ _)) .nil
  ·exact .cons rfl (AObj.sub_f (hθ k) _ (Q8e _ _ _ _ _ _)) .nil
  have hN1:=NewO.add hk hoy (Q8e x.op x.n nb x.binds (kidsL lts x.kids) la)
  have hN2:=((hN.trans hNb).trans hNa).trans hN1
  obtain⟨t,ht⟩:∃t:LTr,t=.mk k x.op x.n nb x.binds (kidsL lts x.kids) la:=⟨_,rfl⟩
  have hto:lts.flatMap ownO++bO nb x.binds++aO la++[(k,.cells [int x.op,int x.n,bC nb x.binds,.sl 1 (kC (kidsL lts x.kids)),.sl 2 (la.map lAlt)])]=(lts++[t]).flatMap ownO:=by
   rw[List.flatMap_append,ht]
   simp[ownO,List.append_assoc]
  rw[hto]at hN2
  have hL2:=hL.snoc (Qb4 (by rw[List.take_append_drop];exact hin)) (x:=x) (fun q hq=>by have:=hxin q hq;simp;omega) (id:=k) hla hnb hlo
  rw[←Q11 hx,show LTr.mk k x.op x.n nb x.binds (x.kids.map fun q=>lts.getD q.toNat default) la=t by rw[ht];rfl]at hL2
  refine AOps.storeOwn tabOk rfl rfl rfl rfl rfl rfl rfl rfl (by rw[Qji (by simp[hgl];omega)];simp;omega) ?_
  have hst:=Qjg (ts:=lts) (n:=(e.map cEx).length) (by simp[hgl];omega) t
  rw[hgl,show t.id=k by rw[ht];rfl]at hst
  rw[hst]
  refine zM ?_
  exact cInv ⟨e.length - (j+1),(j+1,lts++[t],_),id,by omega,⟨by omega,⟨hL2,hN2⟩,rfl⟩,LessR.of rfl zFS (by simp) zLO rfl rfl hN2.ok⟩
 ·have hlt:j=e.length:=by simp at hb2;omega
  subst hlt
  rw[List.take_length]at hL
  obtain⟨N,hNe⟩:∃N,e.length=N+1:=⟨e.length - 1,by have:=List.length_pos_iff.2 hT.ne;omega⟩
  obtain⟨t,ht⟩:=Q00 (l:=lts) (i:=N) (by rw[hL.len];omega)
  have hnt:e.length - 1=N:=by omega
  refine zM ?_
  refine AOps.wk 82 rfl (y:=.one (int (N:Nat))) (.ofEq (by congr 3;simp;omega)) ?_
  refine zS (idxI tabOk rfl rfl rfl rfl rfl rfl rfl (by simp;omega)) ?_
  refine zS (zLD rfl rfl rfl (Q7b ht)) ?_
  refine zA ?_
  have hown:=hL.own hin _ N t (Nat.lt_succ_self _) ht
  refine AFn.fin' rfl (WkF.ofEq rfl) (by simp[AC.ids]) hov ⟨t,rfl,?_,?_,?_,?_,?_,hov,?_⟩
  ·rw[hL.er hin _ N t (Nat.lt_succ_self _) ht]
   unfold grow Q06;rw[hnt]
  ·exact hL.ok hin (fun x hx=>⟨(he.x x hx).b,(he.x x hx).k,(he.x x hx).a,(he.x x hx).ab⟩) _ N t (Nat.lt_succ_self _) ht
  ·exact fun p hp=>hN.own p (hown p hp)
  ·exact hL.nodup hT hN.nd (by rw[hnt];exact ht)
  ·intro k hk
   obtain⟨p,hp,rfl⟩:=List.mem_map.1 hk
   exact hN.new p.1 (List.mem_map_of_mem (hown p hp))
  ·intro m o hm
   show ov m=some o
   rw[hN.old m fun hmk=>by have:=hN.new m hmk;rw[hm]at this;cases this]
   exact hm
end Go.Proofs.YtpaonemmbhbgoaaGreatDoor
namespace Go.CoreX
def rnTA (nm:Nm)(f:Int):List Alt->List Alt×Nm×Int
 |[]=>([],nm,f)
 |x::l=>(⟨x.tag,frB f x.binds⟩::(rnTA (frN nm f x.binds) (f+x.binds.length) l).1,(rnTA (frN nm f x.binds) (f+x.binds.length) l).2)
mutual
def rnT (nm:Nm)(f:Int):Tr->Tr×Nm×Int
 |.mk o n b k a=>
  let s1:=ren1 o nm f b
  let s2:=rnTA s1.2.1 s1.2.2 a
  let s3:=rnTs s2.2.1 s2.2.2 k
  (.mk o (if o=0 then (nm n).getD n else n) s1.1 s3.1 s2.1,s3.2)
def rnTs (nm:Nm)(f:Int):List Tr->List Tr×Nm×Int
 |[]=>([],nm,f)
 |t::l=>((rnT nm f t).1::(rnTs (rnT nm f t).2.1 (rnT nm f t).2.2 l).1,(rnTs (rnT nm f t).2.1 (rnT nm f t).2.2 l).2)
end
theorem Qhj(o:Int)(nm:Nm)(f:Int)(b:List Int):(ren1 o nm f b).1.length=b.length:=by
 unfold ren1;split
 ·rfl
 ·exact Qgc f b
theorem Qhh:∀(l:List Alt)(nm:Nm)(f:Int),(rnTA nm f l).1.map (fun x=>x.binds.length)=l.map fun x=>x.binds.length
 |[],_,_=>rfl
 |x::l,nm,f=>by simp only[rnTA,List.map_cons,Qgc,Qhh l]
theorem Qgd{l r:List Alt}(h:l.map (fun x=>x.binds.length)=r.map fun x=>x.binds.length):(l.flatMap (·.binds)).length=(r.flatMap (·.binds)).length:=by
 simp only[List.length_flatMap];exact congrArg List.sum h
theorem mem_len{l r:List Alt}(h:l.map (fun x=>x.binds.length)=r.map fun x=>x.binds.length){c:Nat}(hr:∀x∈r,x.binds.length<=c):∀x∈l,x.binds.length<=c:=fun x hx=>by
 have:x.binds.length∈r.map fun x=>x.binds.length:=by rw[←h];exact List.mem_map_of_mem (f:=fun x:Alt=>x.binds.length) hx
 obtain⟨y,hy,e⟩:=List.mem_map.1 this
 rw[←e];exact hr y hy
mutual
theorem Qks:∀(t:Tr)(nm:Nm)(f:Int),cntN (rnT nm f t).1=cntN t
 |.mk o n b k a,nm,f=>by simp only[rnT,cntN,Qhg k]
theorem Qhg:∀(l:List Tr)(nm:Nm)(f:Int),cntNs (rnTs nm f l).1=cntNs l
 |[],_,_=>rfl
 |t::l,nm,f=>by simp only[rnTs,cntNs,Qks t,Qhg l]
end
end Go.CoreX
namespace Go.Proofs.YtpaonemmbhbgoaaGreatDoor
open Go Go.Abs Go.CoreX
variable {Γ:List (Nat×List AC)}
end Go.Proofs.YtpaonemmbhbgoaaGreatDoor
namespace Go.CoreX
-- What holds of all nodes.
mutual
def allT (p:Lab->Prop):Tr->Prop
 |.mk o n b k a=>p ⟨o,n,b,k.map Tr.op,a⟩/\allTs p k
def allTs (p:Lab->Prop):List Tr->Prop
 |[]=>True
 |t::l=>allT p t/\allTs p l
end
theorem Q45{p:Lab->Prop}:∀{l:List Tr},allTs p l↔∀t∈l,allT p t
 |[]=>by simp[allTs]
 |t::l=>by simp[allTs,Q45 (l:=l)]
theorem Qmp{e:List Ex}(hk:Q0p e){p:Lab->Prop}(h:∀x∈e,p (labE e x)):∀(n i:Nat),i < n->i < e.length->allT p (Q06 e i)
 |0,i,hi,_=>by omega
 |n+1,i,hi,hl=>by
  obtain⟨x,hx⟩:∃x,e[i]?=some x:=⟨e[i],List.getElem?_eq_getElem hl⟩
  rw[Q2d hk hx]
  refine⟨?_,Q45.2 fun t ht=>?_⟩
  ·have:=h x (List.mem_of_getElem? hx)
   simp only[labE]at this
   simp only[List.map_map]
   exact this
  ·obtain⟨q,hq,rfl⟩:=List.mem_map.1 ht
   have:=hk i x hx q hq
   exact Qmp hk h n q.toNat (by omega) (by omega)
theorem Q6w{e:List Ex}(h:IsTree e){p:Lab->Prop}(hp:∀x∈e,p (labE e x)):allT p (grow e):=by
 have:=List.length_pos_iff.2 h.ne
 exact Qmp h.k hp _ (e.length - 1) (Nat.lt_succ_self _) (by omega)
structure shLab (l:Lab):Prop where
 b:l.op=2∨l.op=4∨l.op=5∨l.op=9∨l.binds=[]
 v:l.op=0->l.alts=[]/\l.ops=[]
theorem Qnb{x:Ex}(h:shape x=true)(e:List Ex):shLab (labE e x):=by
 unfold shape at h
 split at h
 ·rename_i h7
  simp only[Bool.and_eq_true,beq_iff_eq]at h
  refine⟨by simp only[labE];exact .inr (.inr (.inr (.inr (List.length_eq_zero_iff.1 h.1.2)))),fun h0=>?_⟩
  simp only[labE]at h0
  omega
 ·rename_i h7
  cases hw:wants x with
  |none=>rw[hw]at h;simp at h
  |some w=>
   obtain⟨k,b,u⟩:=w
   rw[hw]at h
   simp only[Bool.and_eq_true,beq_iff_eq]at h
   obtain⟨⟨⟨h1,h2⟩,h3⟩,_⟩:=h
   have ha:x.alts=[]:=List.length_eq_zero_iff.1 h3
   refine⟨?_,fun h0=>?_⟩
   ·simp only[labE]
    by_cases e2:x.op=2;· exact .inl e2
    by_cases e4:x.op=4;· exact .inr (.inl e4)
    by_cases e5:x.op=5;· exact .inr (.inr (.inl e5))
    by_cases e9:x.op=9;· exact .inr (.inr (.inr (.inl e9)))
    right;right;right;right
    have hb:b=0:=by
     unfold wants at hw
     simp only[e2,e4,e5,e9,if_false]at hw
     repeat' split at hw
     all_goals first
      |(cases hw;rfl)
      |(cases hw;done)
    exact List.length_eq_zero_iff.1 (by omega)
   ·simp only[labE]at h0 ⊢
    refine⟨ha,?_⟩
    unfold wants at hw
    rw[if_pos (.inl h0)]at hw
    cases hw
    have:x.kids=[]:=List.length_eq_zero_iff.1 (by omega)
    rw[this];rfl
theorem Q60{e:List Ex}(h:check e=0):allT shLab (grow e):=Q6w (Q0h h) fun x hx=>Qnb (Qc4 h x hx) e
-- The same up to renaming.
theorem Qkt:∀(a:List Alt)(nm:Nm)(f:Int),Q1k a (rnTA nm f a).1=true
 |[],_,_=>rfl
 |x::l,nm,f=>by simp[rnTA,Q1k,Qgc,Qkt l]
theorem rnTA_l:∀(a:List Alt)(nm:Nm)(f:Int),(rnTA nm f a).1.length=a.length
 |[],_,_=>rfl
 |x::l,nm,f=>by simp[rnTA,rnTA_l l]
theorem rnT_op(t:Tr)(nm:Nm)(f:Int):(rnT nm f t).1.op=t.op:=by cases t;rfl
theorem Qhf:∀(l:List Tr)(nm:Nm)(f:Int),(rnTs nm f l).1.map Tr.op=l.map Tr.op
 |[],_,_=>rfl
 |t::l,nm,f=>by simp only[rnTs,List.map_cons,rnT_op,Qhf l]
end Go.CoreX
namespace Go.CoreX
structure ShN (o n:Int)(b:List Int)(k:Nat)(a:List Alt):Prop where
 sh:∃ops:List Int,ops.length=k/\shape ⟨o,n,b,ops,a⟩=true
section
variable {o n:Int}{b:List Int}{k:Nat}{a:List Alt}
theorem ShN.want(h:ShN o n b k a)(h7:¬(o=7∨o=13)):∃w:Int×Int×Bool,(∃ops:List Int,ops.length=k/\wants ⟨o,n,b,ops,a⟩=some w)/\(k:Int)=w.1/\(b.length:Int)=w.2.1/\a=[]:=by
 obtain⟨ops,hl,h⟩:=h.sh
 unfold shape at h
 rw[if_neg h7]at h
 split at h
 ·cases h
 ·rename_i kk bb u hw
  simp only[Bool.and_eq_true,beq_iff_eq,List.length_eq_zero_iff]at h
  exact⟨_,⟨ops,hl,hw⟩,by rw[←hl];exact h.1.1.1,h.1.1.2,h.1.2⟩
theorem ShN.lam(h:ShN 2 n b k a):k=1/\a=[]:=by
 obtain⟨w,⟨ops,hl,hw⟩,h1,h2,h3⟩:=h.want (by omega)
 cases hw;exact⟨by simp at h1;omega,h3⟩
theorem ShN.app(h:ShN 3 n b k a):1<=k/\b=[]/\a=[]:=by
 obtain⟨w,⟨ops,hl,hw⟩,h1,h2,h3⟩:=h.want (by omega)
 cases hw
 refine⟨?_,List.length_eq_zero_iff.1 (by simp at h2;simp[h2]),h3⟩
 simp only at h1;split at h1 <;> omega
theorem ShN.lett(h:ShN 4 n b k a):k=2/\b.length=1/\a=[]:=by
 obtain⟨w,⟨ops,hl,hw⟩,h1,h2,h3⟩:=h.want (by omega)
 cases hw;exact⟨by simp at h1;omega,by simp at h2;omega,h3⟩
theorem ShN.recs(h:ShN 5 n b k a):k=b.length+1/\1<=b.length/\a=[]:=by
 obtain⟨w,⟨ops,hl,hw⟩,h1,h2,h3⟩:=h.want (by omega)
 cases hw
 refine⟨by simp at h1;omega,?_,h3⟩
 simp only at h2;split at h2 <;> omega
theorem ShN.prim(h:ShN 8 n b k a):0<=n/\n<=11/\(k:Int)=Q5c.getD n.toNat 0/\b=[]/\a=[]:=by
 obtain⟨w,⟨ops,hl,hw⟩,h1,h2,h3⟩:=h.want (by omega)
 have hw:(if between n 0 11=true then some (Q5c.getD n.toNat 0,(0:Int),true)else none)=some w:=hw
 split at hw
 ·rename_i hb
  cases hw
  simp[between]at hb
  exact⟨hb.1,hb.2,h1,List.length_eq_zero_iff.1 (by simp at h2;simp[h2]),h3⟩
 ·cases hw
theorem ShN.row(h:ShN 9 n b k a):k=b.length/\a=[]:=by
 obtain⟨w,⟨ops,hl,hw⟩,h1,h2,h3⟩:=h.want (by omega)
 cases hw;exact⟨by simp at h1;omega,h3⟩
theorem ShN.one(h:ShN o n b k a)(ho:o=10∨o=12∨o=16):k=1/\b=[]/\a=[]:=by
 obtain⟨w,⟨ops,hl,hw⟩,h1,h2,h3⟩:=h.want (by omega)
 rcases ho with rfl|rfl|rfl <;> (cases hw;exact⟨by simp at h1;omega,List.length_eq_zero_iff.1 (by simp at h2;simp[h2]),h3⟩)
theorem ShN.alts7(h:ShN o n b k a)(ho:o=7∨o=13):k=1+a.length/\b=[]/\(o=13->1<=a.length)/\∀i x,a[i]?=some x->Q4r ⟨o,n,b,[],a⟩ i x=false:=by
 obtain⟨ops,hl,h⟩:=h.sh
 unfold shape at h
 rw[if_pos ho]at h
 simp only[Bool.and_eq_true,beq_iff_eq,List.length_eq_zero_iff]at h
 obtain⟨⟨h1,h2⟩,h3⟩:=h
 unfold Q5p at h1
 simp only[Bool.and_eq_true,Bool.not_eq_true',beq_iff_eq,Bool.or_eq_true,decide_eq_true_eq]at h1
 obtain⟨h4,h5,h6⟩:=h1
 refine⟨by omega,h2,fun h13=>?_,fun i x hx=>?_⟩
 ·rcases h6 with h6|h6
  ·subst h13;cases h6
  ·omega
 ·rw[List.any_eq_false]at h4
  have:=h4 (x,i) (by rw[List.mk_mem_zipIdx_iff_getElem?];exact hx)
  simpa[Q4r]using this
theorem ShN.case(h:ShN 7 n b k a):k=1+a.length/\b=[]:=⟨(h.alts7 (.inl rfl)).1,(h.alts7 (.inl rfl)).2.1⟩
theorem ShN.handle(h:ShN 13 n b k a):k=1+a.length/\b=[]/\1<=a.length/\∀i x,a[i]?=some x->(i=0↔x.tag=-1)/\x.binds.length=if i=0 then 1 else 2:=by
 obtain⟨h1,h2,h3,h4⟩:=h.alts7 (.inr rfl)
 refine⟨h1,h2,h3 rfl,fun i x hx=>?_⟩
 have:=h4 i x hx
 simp only[Q4r,Bool.or_eq_false_iff,Bool.and_eq_false_iff,Bool.not_eq_false',beq_iff_eq,beq_eq_false_iff_ne]at this
 obtain⟨_,h5,h6⟩:=this
 refine⟨?_,?_⟩
 ·rcases h5 with h5|h5
  ·exact absurd rfl h5
  ·by_cases hi:i=0
   ·subst hi;simpa using h5
   ·have:((i:Int)==0)=false:=by simp[hi]
    rw[this]at h5
    simp[hi]at h5 ⊢;exact h5
 ·rcases h6 with h6|h6
  ·exact absurd rfl h6
  ·split at h6
   ·rw[if_neg (by omega)];omega
   ·rename_i hh
    have:i=0∨i=1:=by omega
    rcases this with rfl|rfl <;> simp <;> omega
end
def shpQ (l:Lab):Prop:=ShN l.op l.n l.binds l.ops.length l.alts
theorem Qkk{t:Tr}(h:allT shpQ t):ShN t.op t.n t.binds t.kids.length t.alts:=by
 cases t with
 |mk o n b k a=>simpa[shpQ]using h.1
theorem Qoi{p:Lab->Prop}{t s:Tr}(h:allT p t)(hs:s∈t.kids):allT p s:=by
 cases t with
 |mk o n b k a=>exact Q45.1 h.2 s hs
theorem Q37{p:Lab->Prop}{t:Tr}(h:allT p t){i:Nat}(hi:i < t.kids.length):allT p (t.kids.getD i default):=by
 rw[List.getD_eq_getElem?_getD,List.getElem?_eq_getElem hi]
 exact Qoi h (List.getElem_mem hi)
theorem Q2n{p:Lab->Prop}{t:Tr}(h:allT p t):p ⟨t.op,t.n,t.binds,t.kids.map Tr.op,t.alts⟩:=by
 cases t with
 |mk o n b k a=>exact h.1
mutual
theorem Q6v{p q:Lab->Prop}(h:∀l,p l->q l):∀t:Tr,allT p t->allT q t
 |.mk o n b k a,ht=>⟨h _ ht.1,Qfe h k ht.2⟩
theorem Qfe{p q:Lab->Prop}(h:∀l,p l->q l):∀l:List Tr,allTs p l->allTs q l
 |[],_=>trivial
 |t::l,ht=>⟨Q6v h t ht.1,Qfe h l ht.2⟩
end
theorem shpQ_of{l:Lab}(h:shape ⟨l.op,l.n,l.binds,l.ops,l.alts⟩=true):shpQ l:=⟨⟨l.ops,rfl,h⟩⟩
end Go.CoreX
namespace Go.CoreX
def cntB (k:Int)(l:Lab):Int:=((Q08 l.op l.binds l.alts).count k:Nat)
-- Names that a tree does not bind keep their new names.
mutual
def bndT:Tr->List Int
 |.mk o _ b k a=>Q08 o b a++bndTs k
def bndTs:List Tr->List Int
 |[]=>[]
 |t::l=>bndT t++bndTs l
end
theorem Qf5{o:Int}{b:List Int}{a:List Alt}{j k:Int}(h:k∈Q1p o b a j):k∈Q08 o b a:=by
 unfold Q1p at h
 unfold Q08
 split at h
 ·rename_i e
  rw[if_pos (by omega)]
  exact List.mem_append.2 (.inl h)
 ·split at h
  ·rename_i e1 e2
   refine List.mem_append.2 (.inr (List.mem_flatMap.2 ⟨_,?_,h⟩))
   have hl:(j - 1).toNat < a.length:=by omega
   rw[List.getD_eq_getElem?_getD,List.getElem?_eq_getElem hl]
   exact List.getElem_mem hl
  ·simp at h
end Go.CoreX
namespace Go.CoreX
def tl (a:Alt):Int×Nat:=(a.tag,a.binds.length)
end Go.CoreX
namespace Go.CoreX
def pLab (l:Lab):Prop:=∀(e:List Ex)(x:Ex),(∀k∈x.kids,0<=k/\k < (e.length:Int))->labE e x=l->Q0g false e x=0
theorem sum0{α:Type}{f:α->Int}:∀{l:List α},(∀x∈l,0<=f x)->(l.map f).sum=0->∀x∈l,f x=0
 | [], _, _, x, hx => by simp at hx
 |y::l,h,hs,x,hx=>by
  have h1:=h y (by simp)
  have h2:∀z∈l,0<=f z:=fun z hz=>h z (by simp[hz])
  have h3:0<=(l.map f).sum:=by
   clear h h1 hs hx
   induction l with
   |nil=>simp
   |cons z l ih=>
    have:=h2 z (by simp)
    have:=ih fun y hy=>h2 y (by simp[hy])
    simp only[List.map_cons,List.sum_cons];omega
  simp only[List.map_cons,List.sum_cons]at hs
  rcases List.mem_cons.1 hx with rfl|hx
  ·omega
  ·exact sum0 h2 (by omega) x hx
open Classical in
mutual
theorem Qka{p:Lab->Prop}:∀t:Tr,allT p t->sumT (fun l=>if p l then 0 else 1) t=0
 |.mk o n b k a,h=>by
  simp only[sumT,Qh4 k h.2]
  rw[if_pos h.1];rfl
theorem Qh4{p:Lab->Prop}:∀l:List Tr,allTs p l->sumTs (fun l=>if p l then 0 else 1) l=0
 |[],_=>rfl
 |t::l,h=>by simp only[sumTs,Qka t h.1,Qh4 l h.2];rfl
end
open Classical in
theorem Q6t{p:Lab->Prop}{g:List Ex}(h:IsTree g)(ha:allT p (grow g)):∀l∈labs g,p l:=by
 have h1:=Q32 (fun l=>if p l then (0:Int)else 1) h
 rw[Qka _ ha]at h1
 intro l hl
 have:=sum0 (fun x _=>by split <;> omega) h1 l hl
 split at this
 ·assumption
 ·cases this
theorem Q1j{e:List Ex}(h:check e=0):Q1q e=0/\(∀x∈e,Q0g false e x=0)/\(Q04 e).Nodup/\occT [] (grow e)=[]:=by
 unfold check body at h
 by_cases h1:Q1q e=0
 ·rw [if_neg (by simpa using h1)] at h
  by_cases h2:Q1i (Q0g false e) e=0
  ·rw[if_neg (by simpa using h2)]at h
   by_cases h3:Q56 ([]++Q04 e)=true
   ·rw[if_pos h3]at h;cases h
   ·rw[if_neg h3]at h
    have h3':=(Q1y _).1 (by simpa using h3)
    refine⟨h1,(Q23 _ _).1 h2,by simpa using h3',?_⟩
    by_cases h4:(Q3h (grow e)).all (fun n=>([]:List Int).contains n)=true
    ·have h5:Q3h (grow e)=[]:=by
      cases hf:Q3h (grow e) with
      |nil=>rfl
      |cons n l=>rw[hf]at h4;simp at h4
     unfold Q3h at h5
     cases ho:occT [] (grow e) with
     |nil=>rfl
     |cons n l=>
      have:=(Q69 n (n::l)).2 (by simp)
      rw[←ho,h5]at this
      simp at this
    ·rw[if_neg h4]at h;cases h
  ·rw[if_pos (by simpa using h2)]at h;exact absurd h h2
 ·rw[if_pos h1]at h;exact absurd h h1
theorem Qiv{e:List Ex}(h1:Q1q e=0)(h2:∀x∈e,Q0g false e x=0)(h3:(Q04 e).Nodup)(h4:occT [] (grow e)=[]):check e=0:=by
 unfold check body
 rw[if_neg (by simpa using h1),if_neg (by simpa using (Q23 _ _).2 h2),if_neg (by rw[(Q1y _).2 (by simpa using h3)];simp),if_pos]
 unfold Q3h
 rw[h4];rfl
mutual
theorem Qa2(k:Int):∀t:Tr,(((bndT t).count k:Nat):Int)=sumT (cntB k) t
 |.mk o n b ks a=>by
  simp only[bndT,sumT,cntB,List.count_append,←Qbn k ks];push_cast;rfl
theorem Qbn(k:Int):∀l:List Tr,(((bndTs l).count k:Nat):Int)=sumTs (cntB k) l
 |[]=>rfl
 |t::l=>by simp only[bndTs,sumTs,List.count_append,←Qa2 k t,←Qbn k l];push_cast;rfl
end
theorem Qf6{e:List Ex}(h:check e=0):(bndT (grow e)).Nodup:=by
 obtain⟨_,_,h3,_⟩:=Q1j h
 have t1:=Q0h h
 rw[List.nodup_iff_count]at h3 ⊢
 intro k
 have h4:=h3 k
 have h5:=Qa2 k (grow e)
 rw[←Q32 _ t1]at h5
 have h6:(((Q04 e).count k:Nat):Int)=((labs e).map (cntB k)).sum:=by rw[Q1z,Q7r];rfl
 omega
theorem Qbl{e:List Ex}(h:check e=0):allT pLab (grow e):=by
 obtain⟨_,h2,_,_⟩:=Q1j h
 have t1:=Q0h h
 refine Q6w t1 fun x hx g y hy hl=>?_
 rw[Q7z hy (Q7e t1.k hx) hl]
 exact h2 x hx
abbrev nmN:Nm:=fun _=>none
end Go.CoreX
namespace Go.Proofs.YtpaonemmbhbgoaaGreatDoor
open Go Go.Abs Go.CoreX
variable {Γ:List (Nat×List AC)}
theorem Qn0(hΓ:∀g cs,(g,cs)∈Γ->idsL isO cs)(x:Ex)(hx:okX x)(hl:x.binds.length+(x.alts.flatMap (·.binds)).length<=4194304):
  APure Tryz.prog Γ 49 [.agg (cEx x)] (.one (.sl 1 ((Q07 x).map cI))):=by
 have ha:=hx.a
 intro ou
 refine AFn.walk 36 tabOk Tryz.func49 rfl (by kernel_rfl) rfl rfl fun hou=>?_
 iterate 12 (first|((with_reducible refine oj ?_);refine zau ?_)|(with_reducible refine zst ?_)|((with_reducible refine Q0k ?_ ?_);rfl)|(with_reducible refine ok ?_;first|refine ACode.condT rfl ?_|refine ACode.condF rfl ?_))
 refine ACode.freeze1 (.l 0) 1 rfl rfl ?_
 refine ACode.growS 3 3 1 rfl ?_
 have he0:Q07 x=Q2z (if x.op=2∨x.op=4∨x.op=5 then x.binds else []) x.alts x.alts.length:=by simp[Q07,Q08,Q2z]
 obtain⟨pre,hpre⟩:∃pre,pre=(if x.op=2∨x.op=4∨x.op=5 then x.binds else []):=⟨_,rfl⟩
 rw[he0,←hpre]
 have hpl:pre.length<=x.binds.length:=by rw[hpre];split <;> simp
 refine ACode.cutR hΓ (α:=Unit) (fun _=>[(3,.one (.gs 1 (pre.map cI) (.l 0))),(1,.one (.box (cEx x)))])
  (fun _ => ⟨1, [(0, .tok 3 1 pre.length)], ou⟩) (fun _ => True) ?_ fun _ _ => ?_
 ·repeat' first|refine zN ?_|(with_reducible refine oj ?_;refine AOps.splitS rfl rfl rfl rfl (fun hb=>?_) (fun hb=>?_))|(with_reducible refine ok ?_;first|refine ACode.condS rfl (fun hb=>?_) (fun hb=>?_)|refine ACode.cond rfl (fun hb=>?_) (fun hb=>?_))
  all_goals first
   |(
    have:pre=x.binds:=by simp_all
    subst this
    refine AOps.app tabOk rfl rfl rfl rfl rfl rfl rfl rfl rfl (Base.gs' _ _ _ _ _ (by rfl) (by simp)) (.sl _ _) rfl (by simp;show _ * 8<=_;omega) (by simp;omega) ?_
    repeat' first|refine zN ?_|(with_reducible refine oj ?_;refine AOps.splitS rfl rfl rfl rfl (fun hb=>?_) (fun hb=>?_))|(with_reducible refine ok ?_;first|refine ACode.condS rfl (fun hb=>?_) (fun hb=>?_)|refine ACode.cond rfl (fun hb=>?_) (fun hb=>?_))
    exact cInv ⟨(),fun _=>2,trivial,LessR.of rfl (FrSub.consGs rfl rfl (by simp) (FrSub.consP rfl (.ofEq rfl) (by simp) .nil)) (by simp) (LoSub.cons rfl (by simp[AObj.ren];rfl) rfl (by simp) .nil) rfl rfl hou⟩)
   |(
    have:pre=[]:=by simp_all
    subst this
    exact cInv ⟨(),fun _=>1,trivial,LessR.of rfl (FrSub.consGs rfl rfl (by simp) (FrSub.consP rfl (.ofEq rfl) (by simp) .nil)) (by simp) zLO rfl rfl hou⟩)
 clear hpre he0
 refine zA ?_
 refine ACode.loopR hΓ (α:=Nat) (fun j=>[(26,.one (int j)),(25,.one (int (x.alts.map cAlt).length)),(24,.one (.sl 2 (x.alts.map cAlt))),(3,.one (.gs 1 ((Q2z pre x.alts j).map cI) (.l 0))),(1,.one (.box (cEx x)))])
  (fun j=>⟨1,[(0,.tok 3 1 (Q2z pre x.alts j).length)],ou⟩) (fun m j=>j<=x.alts.length/\m=x.alts.length - j) (a0:=0) (ρ:=id) ⟨by omega,rfl⟩
  (LessR.of rfl (FrSub.cons rfl (.ofEq rfl) (FrSub.cons rfl (.ofEq rfl) (FrSub.consP rfl (.ofEq rfl) (by simp) (FrSub.consGs (by simp[Q2z];rfl) rfl (by simp) (FrSub.consP rfl (.ofEq rfl) (by simp) .nil))))) (by simp) (LoSub.cons rfl (by simp[AObj.ren,Q2z]) rfl (by simp) .nil) rfl rfl hou) fun m j hj=>?_
 obtain⟨hjl,rfl⟩:=hj
 refine zA ?_
 refine ACode.cond rfl (fun hb2=>?_) (fun hb2=>?_)
 ·have hlt:j < x.alts.length:=by simpa using hb2
  obtain⟨a,ha2⟩:=Q00 hlt
  have hbl:=Qbo (pre:=pre) (al:=x.alts) (j+1)
  rw[Q2u ha2]at hbl
  simp only[List.length_append]at hbl
  refine zA ?_
  refine zS (zIA rfl rfl rfl (by omega) (Q05 ha2)) ?_
  refine zA ?_
  refine AOps.app tabOk rfl rfl rfl rfl rfl rfl rfl rfl rfl (Base.gs' _ _ _ _ _ (by rfl) (by simp)) (.sl _ _) rfl (by simp;show _ * 8<=_;omega) (by simp;omega) ?_
  refine zM ?_
  exact cInv ⟨x.alts.length - (j+1),j+1,fun _=>2,by omega,⟨by omega,rfl⟩,LessR.of rfl (FrSub.cons rfl (.ofEq rfl) (FrSub.cons rfl (.ofEq rfl) (FrSub.consP rfl (.ofEq rfl) (by simp) (FrSub.consGs (by rw[Q2u ha2,List.map_append];rfl) rfl (by simp) (FrSub.consP rfl (.ofEq rfl) (by simp) .nil))))) (by simp) (LoSub.cons rfl (by simp[AObj.ren,Q2u ha2];rfl) rfl (by simp) .nil) rfl rfl hou⟩
 ·have hlt:j=x.alts.length:=by simp at hb2;omega
  subst hlt
  refine zA ?_
  exact APure.fin rfl (.one (.gsE rfl)) (by simp) hou rfl
end Go.Proofs.YtpaonemmbhbgoaaGreatDoor
namespace Go.CoreX
structure pOk (l:Lab):Prop where
 b:l.binds.length<=1048576
 k:l.ops.length<=1048576
 a:l.alts.length<=1048576
 ab:∀x∈l.alts,x.binds.length<=1048576
 s:l.binds.length+(l.alts.flatMap (·.binds)).length<=4194304
mutual
theorem Qkr:∀(t:Tr)(nm:Nm)(f:Int),allT pOk t->allT pOk (rnT nm f t).1
 |.mk o n b k a,nm,f,h=>by
  obtain⟨h1,h2⟩:=h
  have e1:=Qhh a (ren1 o nm f b).2.1 (ren1 o nm f b).2.2
  refine⟨⟨?_,?_,?_,?_,?_⟩,Qhe k _ _ h2⟩
  ·simp only[Qhj];exact h1.b
  ·simp only[Qhf];exact h1.k
  ·simp only[rnTA_l];exact h1.a
  ·exact mem_len e1 h1.ab
  ·simp only[Qhj,Qgd e1];exact h1.s
theorem Qhe:∀(l:List Tr)(nm:Nm)(f:Int),allTs pOk l->allTs pOk (rnTs nm f l).1
 |[],_,_,_=>trivial
 |t::l,nm,f,h=>⟨Qkr t nm f h.1,Qhe l _ _ h.2⟩
end
-- Two lists in order, with the same members, are one list.
end Go.CoreX
namespace Go.Proofs.YtpaonemmbhbgoaaGreatDoor
open Go Go.Abs Go.CoreX
theorem Qhu{e:List Ex}(he:okB e):∀l∈labs e,pOk l:=fun l hl=>by
 obtain⟨x,hx,rfl⟩:=List.mem_map.1 hl
 have h:=he.eo.x x hx
 exact⟨h.b,by simpa[labE]using h.k,h.a,h.ab,he.b x hx⟩
theorem Qjf{g:List Ex}(hl:g.length<=1048576)(h:∀l∈labs g,pOk l):okB g:=by
 refine⟨⟨hl,fun x hx=>?_⟩,fun x hx=>?_⟩
 ·have:=h _ (List.mem_map_of_mem (f:=labE g) hx)
  exact⟨this.b,by simpa[labE]using this.k,this.a,this.ab⟩
 ·exact (h _ (List.mem_map_of_mem (f:=labE g) hx)).s
end Go.Proofs.YtpaonemmbhbgoaaGreatDoor
namespace Go.CoreX
end Go.CoreX
namespace Go.CoreX
theorem Qd0{e:List Ex}(h:IsTree e):(Q04 e).Perm (bndT (grow e)):=by
 rw[List.perm_iff_count]
 intro k
 have h5:=Qa2 k (grow e)
 rw[←Q32 _ h]at h5
 have h6:(((Q04 e).count k:Nat):Int)=((labs e).map (cntB k)).sum:=by rw[Q1z,Q7r];rfl
 omega
end Go.CoreX
namespace Go.CoreX
def atomT (t:Tr):Bool:=t.op==0||t.op==1||(t.op==6&&t.kids.length==0)
mutual
def valT:Tr->Bool
 |.mk o n b k a=>atomT (.mk o n b k a)||o==2||(if o=5 then Q8l k else if o=6∨o=9∨o=4 then valTs k else false)
def valTs:List Tr->Bool
 |[]=>true
 |t::l=>valT t&&valTs l
def Q8l:List Tr->Bool
 |[]=>true
 |t::l=>match l with
  |[]=>valT t
  |_::_=>Q8l l
end
mutual
def usesN (id:Int):Tr->Nat
 |.mk o n b k a=>if o=0 then (if n=id then 1 else 0)else Q4m id k
def Q4m (id:Int):List Tr->Nat
 |[]=>0
 |t::l=>usesN id t+Q4m id l
end
mutual
def subT (id:Int)(v:Tr):Tr->Tr
 |.mk o n b k a=>if o=0 then (if n=id then v else .mk o n b k a)else .mk o n b (subTs id v k) a
def subTs (id:Int)(v:Tr):List Tr->List Tr
 |[]=>[]
 |t::l=>subT id v t::subTs id v l
end
def letT (id:Int)(v body:Tr):Tr:=.mk 4 0 [id] [v,body] []
def letsT:List Int->List Tr->Tr->Tr
 |i::is,t::ts,b=>letT i t (letsT is ts b)
 |_,_,b=>b
def wrapI (n:Int):Int:=(n+1073741824) % 2147483648 - 1073741824
def wordT (n:Int):Tr:=.mk 1 n [] [] []
def flagT (b:Bool):Tr:=.mk 6 (if b then 1 else 0) [] [] []
def kidT (t:Tr)(i:Nat):Tr:=t.kids.getD i default
def Q82 (t:Tr):Option Tr:=
 let x:=kidT t 0;let y:=kidT t 1
 if t.n > 6∨x.op≠1∨y.op≠1 then none
 else if t.n=0 then some (wordT (wrapI (x.n+y.n)))
 else if t.n=1 then some (wordT (wrapI (x.n - y.n)))
 else if t.n=2 then some (wordT (wrapI (x.n * y.n)))
 else if t.n=3 then (if y.n=0 then none else some (wordT (wrapI (x.n.tdiv y.n))))
 else if t.n=4 then (if y.n=0 then none else some (wordT (wrapI (x.n.tmod y.n))))
 else if t.n=6 then some (flagT (x.n==y.n))
 else if t.n=5 then some (flagT (decide (x.n < y.n)))
 else some (wordT (wrapI 0))
def Q3x (con:Tr):List Alt->List Tr->Option Tr
 |a::as',k::ks=>if a.tag=con.n then (if a.binds.length≠con.kids.length then none else some (letsT a.binds con.kids k))else if a.tag=-1/\valT con=true then some k else Q3x con as' ks
 |_,_=>none
def Q5z (t:Tr):Option Tr:=Q3x (kidT t 0) t.alts t.kids.tail
def Q58 (n:Int):List Int->List Tr->Option Tr
 |b::bs,k::ks=>if b=n then some k else Q58 n bs ks
 |_,_=>none
def Q9p (t:Tr):Option Tr:=
 let row:=kidT t 0
 if row.op≠9∨valT row=false then none else Q58 t.n row.binds row.kids
def Qlb (t:Tr):Nat:=
 if t.op=3∨t.op=6∨t.op=8∨t.op=9∨t.op=10∨t.op=11 then t.kids.length else if t.op=7∨t.op=12 then 1 else 0
mutual
def mostT:Tr->Int
 |.mk o n b k a=>mostTs ((Q08 o b a).foldl max (-1)) k
def mostTs (m:Int):List Tr->Int
 |[]=>m
 |t::l=>mostTs (max m (mostT t)) l
end
def Qea (root t:Tr)(n:Int):Option Tr:=
 if n < 0∨(Qlb t:Int)<=n∨atomT (kidT t n.toNat)=true then none
 else if (t.kids.take n.toNat).all valT=false then none
 else some (letT (mostT root+1) (kidT t n.toNat) (.mk t.op t.n t.binds (t.kids.set n.toNat (.mk 0 (mostT root+1) [] [] [])) t.alts))
def defN (id:Int)(t:Tr):List Int->Nat->Option Tr
 |[],_=>none
 |b::bs,i=>if b=id/\(t.op=4∨t.op=5)/\(kidT t i).op=2 then some (kidT t i)else defN id t bs (i+1)
def defT (id:Int):List Tr->Option Tr
 |[]=>none
 |t::l=>match defN id t t.binds 0 with
  |some f=>some f
  |none=>defT id l
def Q8o (nodes:List Tr)(root t:Tr):Option Tr:=(defT t.n nodes).map fun f=>(rnT nmN (mostT root+1) f).1
def Q5g (rule:Int)(t:Tr):Option Tr:=
 let v:=kidT t 0;let body:=kidT t 1;let id:=t.binds.getD 0 0
 if rule=2/\atomT v=true then some (subT id v body)
 else if rule=3/\usesN id body=0/\valT v=true then some body
 else if rule=8/\v.op=4 then some (letT (v.binds.getD 0 0) (kidT v 0) (letT id (kidT v 1) body))
 else if rule=9/\v.op=7/\v.alts.length=1 then some (.mk 7 0 [] [kidT v 0,letT id (kidT v 1) body] v.alts)
 else if rule=11/\v.op=2/\usesN id body=1 then some (subT id v body)
 else none
def Q5r (t:Tr):Bool:=t.binds.all fun id=>usesN id (kidT t t.binds.length)==0
def resT (nodes:List Tr)(root:Tr)(rule n:Int)(t:Tr):Option Tr:=
 if n≠0/\rule≠10 then none
 else if rule=1/\t.op=3/\(kidT t 0).op=2/\((kidT t 0).binds.length:Int)=t.kids.length - 1 then some (letsT (kidT t 0).binds t.kids.tail (kidT (kidT t 0) 0))
 else if t.op=4/\rule≠10 then Q5g rule t
 else if rule=4/\t.op=5/\Q5r t=true then some (kidT t t.binds.length)
 else if rule=5/\t.op=7/\(kidT t 0).op=6 then Q5z t
 else if rule=6/\t.op=8/\t.kids.length=2 then Q82 t
 else if rule=7/\t.op=10 then Q9p t
 else if rule=10 then Qea root t n
 else if rule=12/\t.op=0 then Q8o nodes root t
 else none
def Q1c (p:Nat)(u:Tr)(ts:List Tr)(x:Ex):List Tr:=ts++[if ts.length=p then u else Q1m ts x]
def Q1e (e:List Ex)(p:Nat)(u:Tr):List Tr:=e.foldl (Q1c p u) []
def growR (e:List Ex)(p:Nat)(u:Tr):Tr:=(Q1e e p u).getD (e.length - 1) default
def Q0z (e:List Ex)(rule at' n:Int):List Ex×Int:=
 if check e≠0 then ([],check e)
 else if rule < 1∨12 < rule then ([],4)
 else if at' < 0∨(e.length:Int)<=at' then ([],12)
 else match resT (growL e) (grow e) rule n (Q06 e at'.toNat) with
  |none=>([],12)
  |some x=>if check (listT [] (growR e at'.toNat x))≠0 then ([],2)else (listT [] (growR e at'.toNat x),0)
def manyE (e:List Ex)(id:Int):Nat:=e.countP fun x=>x.op==0&&x.n==id
def Qa1 (rule:Int)(t:Tr)(many:Nat):Bool:=
 let v:=kidT t 0
 if rule=2 then atomT v
 else if rule=3 then many==0&&valT v
 else if rule=8 then v.op==4
 else if rule=9 then v.op==7&&v.alts.length==1
 else if rule=11 then v.op==2&&many==1
 else false
def restT (t:Tr)(many:Int->Nat):Bool:=!(t.binds.any fun id=>decide (0 < many id))||Q5r t
def canT (rule:Int)(t:Tr)(many:Int->Nat):Bool:=
 if t.op=4 then Qa1 rule t (many (t.binds.getD 0 0))
 else if rule=4/\t.op=5 then restT t many
 else if rule=6/\t.op=8 then t.kids.length==2&&(Q82 t).isSome
 else if rule=7/\t.op=10 then (Q9p t).isSome
 else if rule=5/\t.op=7 then (kidT t 0).op==6&&(Q5z t).isSome
 else if rule=1/\t.op=3 then (kidT t 0).op==2&&((kidT t 0).binds.length:Int)==t.kids.length - 1
 else false
def Q53:List Int:=[3,4,6,7,5,1,2,11,8,9]
def nextE (e:List Ex):Option (Int×Nat):=Q53.findSome? fun r=>((growL e).zipIdx.find? fun p=>canT r p.1 (manyE e)).map fun p=>(r,p.2)
theorem Q2t(e:List Ex)(p:Nat)(u:Tr):(Q1e e p u).length=e.length:=by
 have:∀(l:List Ex) (ts:List Tr),(l.foldl (Q1c p u) ts).length=ts.length+l.length:=by
  intro l
  induction l with
  |nil=>intro ts;simp
  |cons x l ih=>intro ts;rw[List.foldl_cons,ih];simp[Q1c];omega
 unfold Q1e
 rw[this];simp
end Go.CoreX
namespace Go.CoreX
mutual
def putL (k:Nat)(u:LTr):LTr->LTr
 |.mk i o n nb b ks a=>if i=k then u else .mk i o n nb b (putLs k u ks) a
def putLs (k:Nat)(u:LTr):List LTr->List LTr
 |[]=>[]
 |t::l=>putL k u t::putLs k u l
end
theorem Q33(k:Nat)(u:LTr):∀l:List LTr,putLs k u l=l.map (putL k u)
 |[]=>rfl
 |t::l=>by simp[putLs,Q33 k u l]
theorem Ql1{k:Nat}{u:LTr}(hu:u.id=k):∀t:LTr,(putL k u t).id=t.id
 |.mk i o n nb b ks a=>by
  simp only[putL]
  split
  ·rename_i h;rw[hu];exact h.symm
  ·rfl
inductive SubL (t0:LTr):LTr->Prop
 |here:SubL t0 t0
 |kid {t s:LTr}:s∈t.kids->SubL t0 s->SubL t0 t
theorem SubL.trans{a b c:LTr}(h:SubL a b)(k:SubL b c):SubL a c:=by
 induction k with
 |here=>exact h
 |kid hs _ ih=>exact .kid hs ih
theorem Q5x(e:List Ex)(x:Ex)(p:Nat)(U:Tr):Q1e (e++[x]) p U=Q1e e p U++[if e.length=p then U else Q1m (Q1e e p U) x]:=by
 have:=Q2t e p U
 unfold Q1e at this ⊢
 rw[List.foldl_append,List.foldl_cons,List.foldl_nil,Q1c,this]
theorem Qjq(p:Nat)(U:Tr)(l:List Ex):∀e:List Ex,∃r,Q1e (e++l) p U=Q1e e p U++r:=by
 induction l with
 |nil=>intro e;exact⟨[],by simp⟩
 |cons x l ih=>
  intro e
  obtain⟨r,hr⟩:=ih (e++[x])
  rw[List.append_assoc]at hr
  exact⟨_,by rw[show e++x::l=e++([x]++l) by simp,hr,Q5x,List.append_assoc]⟩
theorem Qba{p:Nat}{U:Tr}{e l:List Ex}{i:Nat}(h:i < e.length):(Q1e (e++l) p U).getD i default=(Q1e e p U).getD i default:=by
 obtain⟨r,hr⟩:=Qjq p U l e
 rw[hr,Q6n (by rw[Q2t];exact h)]
theorem Q4g{e:List Ex}(hk:Q0p e)(p:Nat)(U:Tr){j:Nat}{x:Ex}(hx:e[j]?=some x):(Q1e e p U).getD j default=if j=p then U else .mk x.op x.n x.binds (x.kids.map fun q=>(Q1e e p U).getD q.toNat default) x.alts:=by
 obtain⟨h1,h2⟩:=List.getElem?_eq_some_iff.1 hx
 have he:e=e.take j++x::e.drop (j+1):=by rw[←h2,←List.drop_eq_getElem_cons h1,List.take_append_drop]
 have hl:(e.take j).length=j:=by simp;omega
 have hkj:=hk j x hx
 have h3:(Q1e e p U).getD j default=(Q1e (e.take j++[x]) p U).getD j default:=by
  conv=>lhs;rw[he,show e.take j++x::e.drop (j+1)=(e.take j++[x])++e.drop (j+1) by simp]
  exact Qba (by simp;omega)
 rw[h3,Q5x,hl,List.getD_eq_getElem?_getD,List.getElem?_append_right (by rw[Q2t,hl];exact Nat.le_refl _),Q2t,hl]
 simp only[Nat.sub_self,List.getElem?_cons_zero,Option.getD_some]
 split
 ·rfl
 ·simp only[Q1m]
  congr 1
  refine List.map_congr_left fun q hq=>?_
  have:=hkj q hq
  conv=>rhs;rw[he]
  exact (Qba (by rw[hl];omega)).symm
end Go.CoreX
namespace Go.Proofs.YtpaonemmbhbgoaaGreatDoor
open Go Go.Abs Go.CoreX
theorem putL_kC{k:Nat}{u:LTr}(hu:u.id=k)(l:List LTr):kC (putLs k u l)=kC l:=by
 rw[Q33]
 simp only[kC,List.map_map]
 exact List.map_congr_left fun t _=>by simp only[Function.comp,Ql1 hu]
mutual
theorem Ql0{k:Nat}{u:LTr}:∀t:LTr,k∉keys (objs t)->putL k u t=t
 |.mk i o n nb b ks a,h=>by
  simp only[objs,keys,List.cons_append,List.map_cons,List.map_append,List.mem_cons,List.mem_append,not_or]at h
  simp only[putL]
  rw[if_neg (fun e=>h.1 e.symm),Q39 ks h.2.2]
theorem Q39{k:Nat}{u:LTr}:∀l:List LTr,k∉keys (objss l)->putLs k u l=l
 |[],_=>rfl
 |t::l,h=>by
  simp only[objss,keys,List.map_append,List.mem_append,not_or]at h
  simp only[putLs]
  rw[Ql0 t h.1,Q39 l h.2]
end
theorem Q8d{t s:LTr}(h:s∈t.kids){p:Nat×AObj}(hp:p∈objs s):p∈objss t.kids:=by
 rw[Q4a];exact List.mem_flatMap.2 ⟨s,h,hp⟩
theorem Qh5{t0 t:LTr}(h:SubL t0 t):∀p∈objs t0,p∈objs t:=by
 induction h with
 |here=>exact fun p hp=>hp
 |kid hs _ ih=>exact fun p hp=>(Q8c _ p).2 (.inr (Q8d hs (ih p hp)))
theorem Q0q{l:List (Nat×AObj)}{p:Nat×AObj}(h:p∈l):p.1∈keys l:=List.mem_map_of_mem h
theorem Q1r{l:List (Nat×AObj)}{k:Nat}(h:k∈keys l):∃o,(k,o)∈l:=by
 obtain⟨⟨j,o⟩,h1,h2⟩:=List.mem_map.1 h
 simp at h2;subst h2
 exact⟨o,h1⟩
def tailO:LTr->List (Nat×AObj)
 |.mk i o n nb b k a=>(bO nb b++aO a)++objss k
theorem Q0d:∀t:LTr,objs t=(t.id,.cells (lC t))::tailO t
 |.mk i o n nb b k a=>rfl
theorem Q20{t s:LTr}(h:s∈t.kids){p:Nat×AObj}(hp:p∈objs s):p∈tailO t:=by
 cases t with
 |mk i o n nb b k a=>exact List.mem_append.2 (.inr (Q8d h hp))
theorem Q8u{t:LTr}(h:(keys (objs t)).Nodup):t.id∉keys (tailO t):=by
 rw[Q0d,show keys ((t.id,AObj.cells (lC t))::tailO t)=t.id::keys (tailO t)from rfl]at h
 exact (List.nodup_cons.1 h).1
theorem Qkz{u t0 t:LTr}(h:SubL t0 t)(hn:(keys (objs t)).Nodup)(hu:u.id=t0.id):∀p∈objs (putL t0.id u t),p∈objs u∨(p∈objs t/\p.1∉keys (objs t0)):=by
 induction h with
 |here=>
  intro p hp
  cases t0 with
  |mk i o n nb b k a=>
   simp only[putL,LTr.id,if_true]at hp
   exact .inl hp
 |@kid t s hs hsub ih=>
  have h0:∀k∈keys (objs t0),k∈keys (objs s):=fun k hk=>by
   obtain⟨o,ho⟩:=Q1r hk
   exact Q0q (Qh5 hsub _ ho)
  cases t with
  |mk i o n nb b ks a=>
   simp only[LTr.kids]at hs
   obtain⟨l1,l2,rfl⟩:=List.append_of_mem hs
   have hn2:=hn
   simp only[objs,Q6h,keys,List.cons_append,List.map_cons,List.map_append,show objss (s::l2)=objs s++objss l2 from rfl,List.nodup_cons,List.nodup_append,List.mem_append,not_or]at hn2
   obtain⟨⟨n1,n2,n3,n4⟩,⟨m1,m2⟩,m3⟩:(i∉keys (bO nb b++aO a)/\i∉keys (objss l1)/\i∉keys (objs s)/\i∉keys (objss l2))/\((∀k∈keys (bO nb b++aO a),k∉keys (objs s))/\True)/\(keys (objs s)).Nodup/\(∀k∈keys (objss l1),k∉keys (objs s))/\∀k∈keys (objss l2),k∉keys (objs s):=by
    obtain⟨⟨a1,a2⟩,a3⟩:=hn2
    simp only[keys,List.map_append,List.mem_append,not_or]
    refine⟨⟨⟨a1.1,a1.2⟩,a2.1,a2.2.1,a2.2.2⟩,⟨?_,trivial⟩,?_,?_,?_⟩
    ·intro k hk hk2
     exact a3.2.2 k (by simpa using hk) k (.inr (.inl hk2)) rfl
    ·exact a3.2.1.2.1.1
    ·intro k hk hk2
     exact a3.2.1.2.2 k hk k (.inl hk2) rfl
    ·intro k hk hk2
     exact a3.2.1.2.1.2.2 k hk2 k hk rfl
   have hid:t0.id∈keys (objs s):=h0 _ (Qb8 t0)
   have e1:putLs t0.id u (l1++s::l2)=l1++putL t0.id u s::l2:=by
    rw[Q33,List.map_append,List.map_cons,←Q33,←Q33]
    rw[Q39 l1 fun hk=>m3.2.1 _ hk hid,Q39 l2 fun hk=>m3.2.2 _ hk hid]
   have e2:i≠t0.id:=fun e=>n3 (e▸hid)
   intro p hp
   simp only[putL,if_neg e2,objs,putL_kC hu,List.cons_append,List.mem_cons,List.mem_append]at hp
   rw[e1,Q6h,show objss (putL t0.id u s::l2)=objs (putL t0.id u s)++objss l2 from rfl]at hp
   simp only[List.mem_append]at hp
   simp only[objs,Q6h,List.cons_append,List.mem_cons,List.mem_append,show objss (s::l2)=objs s++objss l2 from rfl]
   rcases hp with rfl|hp|hp|hp|hp
   ·exact .inr ⟨.inl rfl,fun hk=>n3 (h0 _ hk)⟩
   ·exact .inr ⟨.inr (.inl hp),fun hk=>m1 _ (Q0q (List.mem_append.2 hp)) (h0 _ hk)⟩
   ·exact .inr ⟨.inr (.inr (.inl hp)),fun hk=>m3.2.1 _ (Q0q hp) (h0 _ hk)⟩
   ·rcases ih m3.1 p hp with h1|⟨h1,h2⟩
    ·exact .inl h1
    ·exact .inr ⟨.inr (.inr (.inr (.inl h1))),h2⟩
   ·exact .inr ⟨.inr (.inr (.inr (.inr hp))),fun hk=>m3.2.2 _ (Q0q hp) (h0 _ hk)⟩
end Go.Proofs.YtpaonemmbhbgoaaGreatDoor
namespace Go.CoreX
theorem Qo8(k:Nat)(u:LTr)(l:List LTr):erTs (putLs k u l)=l.map fun t=>erT (putL k u t):=by rw[Q0t,Q33,List.map_map];rfl
end Go.CoreX
namespace Go.Proofs.YtpaonemmbhbgoaaGreatDoor
open Go Go.Abs Go.CoreX
section
variable {e:List Ex}{lts:List LTr}{B:Nb->List Int->Prop}
theorem LinkL.put_er(h:LinkL e lts B)(hk:Q0p e)(hid:∀(i j:Nat)(ti tj:LTr),lts[i]?=some ti->lts[j]?=some tj->ti.id=tj.id->i=j){p:Nat}{t0:LTr}(hp:lts[p]?=some t0)(u:LTr):∀(n j:Nat)(t:LTr),j < n->lts[j]?=some t->erT (putL t0.id u t)=(Q1e e p (erT u)).getD j default
 |0,j,t,hj,_=>by omega
 |n+1,j,t,hj,ht=>by
  have hjl:j < e.length:=by rw[←h.len];exact (List.getElem?_eq_some_iff.1 ht).1
  obtain⟨x,hx⟩:=Q00 hjl
  obtain⟨id,nb,a,h1,h2,_⟩:=h.at_ j x hx
  rw[Q4g hk p (erT u) hx]
  by_cases hjp:j=p
  ·subst hjp
   rw[hp]at ht
   cases ht
   rw[if_pos rfl]
   cases t0 with
   |mk i o n nb b ks a=>simp only[putL,LTr.id,if_true]
  ·rw[if_neg hjp]
   have hne:t.id≠t0.id:=fun e1=>hjp (hid j p t t0 ht hp e1)
   rw[ht]at h1
   cases h1
   have hne2:¬id=t0.id:=hne
   simp only[putL]
   rw[if_neg hne2]
   simp only[erT,h2,Qo8,List.map_map]
   congr 1
   refine List.map_congr_left fun q hq=>?_
   have hq':=hk j x hx q hq
   obtain⟨t',ht'⟩:=Q00 (l:=lts) (i:=q.toNat) (by rw[h.len];omega)
   simp only[Function.comp,h.getD ht']
   exact h.put_er hk hid hp u n q.toNat t' (by omega) ht'
theorem LinkL.sub(h:LinkL e lts B)(hT:IsTree e){root:LTr}(hr:lts[e.length - 1]?=some root):∀(k:Nat)(t:LTr),lts[k]?=some t->SubL t root:=by
 have key:∀(d k:Nat) (t:LTr),lts[k]?=some t->e.length - k=d->SubL t root:=by
  intro d
  induction d using Nat.strongRecOn with
  |_ d ih=>
   intro k t ht hd
   have hk:k < e.length:=by rw[←h.len];exact (List.getElem?_eq_some_iff.1 ht).1
   by_cases hl:k+1 < e.length
   ·have hc:=(hT.c k hk).2 hl
    obtain⟨i,x,hx,hkx⟩:=Qgj (e:=e) (k:=k) (by omega)
    have hb:=hT.k i x hx _ hkx
    have hi:=(List.getElem?_eq_some_iff.1 hx).1
    obtain⟨id,nb,a,h1,_⟩:=h.at_ i x hx
    have hp:=ih (e.length - i) (by omega) i _ h1 rfl
    refine SubL.trans (.kid ?_ .here) hp
    simp only[LTr.kids]
    exact List.mem_map.2 ⟨_,hkx,by rw[Int.toNat_natCast,h.getD ht]⟩
   ·have:k=e.length - 1:=by omega
    subst this
    rw[hr]at ht;cases ht
    exact .here
 exact fun k t ht=>key _ k t ht rfl
end
theorem Q5y{t:LTr}{l:List LTr}(h:t∈l):cntN (erT t)<=cntNs (erTs l):=by
 induction l with
 |nil=>cases h
 |cons x l ih=>
  simp only[erTs,cntNs]
  rcases List.mem_cons.1 h with rfl|h
  ·omega
  ·have:=ih h;omega
theorem Q5b:∀(l r:List Tr),cntNs (l++r)=cntNs l+cntNs r
 |[],r=>by simp[cntNs]
 |t::l,r=>by simp only[List.cons_append,cntNs,Q5b l r];omega
theorem put_cnt{u t0 t:LTr}(h:SubL t0 t)(hn:(keys (objs t)).Nodup):cntN (erT (putL t0.id u t))<=cntN (erT t)+cntN (erT u):=by
 induction h with
 |here=>
  cases t0 with
  |mk i o n nb b k a=>simp only[putL,LTr.id,if_true];omega
 |@kid t s hs hsub ih=>
  have h0:∀k∈keys (objs t0),k∈keys (objs s):=fun k hk=>by
   obtain⟨o,ho⟩:=Q1r hk
   exact Q0q (Qh5 hsub _ ho)
  cases t with
  |mk i o n nb b ks a=>
   simp only[LTr.kids]at hs
   obtain⟨l1,l2,rfl⟩:=List.append_of_mem hs
   have hnk:(keys (objss (l1++s::l2))).Nodup:=by
    rw[Q0d]at hn
    simp only[tailO,keys,List.map_cons,List.map_append]at hn
    exact (List.nodup_append.1 (List.nodup_cons.1 hn).2).2.1
   rw[Q6h,show objss (s::l2)=objs s++objss l2 from rfl,Q21,Q21,List.nodup_append,List.nodup_append]at hnk
   have hid:t0.id∈keys (objs s):=h0 _ (Qb8 t0)
   have e1:putLs t0.id u (l1++s::l2)=l1++putL t0.id u s::l2:=by
    rw[Q33,List.map_append,List.map_cons,←Q33,←Q33]
    rw[Q39 l1 fun hk=>hnk.2.2 _ hk _ (List.mem_append.2 (.inl hid)) rfl,Q39 l2 fun hk=>hnk.2.1.2.2 _ hid _ hk rfl]
   have ih':=ih hnk.2.1.1
   simp only[putL]
   split
   ·simp only[erT,cntN];omega
   ·simp only[erT,cntN,e1,Q0t,List.map_append,List.map_cons,Q5b,cntNs]
    omega
theorem Qde:∀l:List (Nat×AObj),∃l':List (Nat×AObj),(∀p∈l',p∈l)/\(keys l').Nodup/\∀k,k∈keys l↔k∈keys l'
 | [] => ⟨[], fun _ h => h, by simp [keys], fun _ => Iff.rfl⟩
 |p::l=>by
  obtain⟨l',h1,h2,h3⟩:=Qde l
  by_cases hp:p.1∈keys l'
  ·refine⟨l',fun q hq=>List.mem_cons_of_mem _ (h1 q hq),h2,fun k=>?_⟩
   rw[show keys (p::l)=p.1::keys l from rfl,List.mem_cons,h3]
   constructor
   ·rintro (rfl|h)
    ·exact hp
    ·exact h
   ·exact .inr
  ·refine⟨p::l',fun q hq=>?_,?_,fun k=>?_⟩
   ·rcases List.mem_cons.1 hq with rfl|hq
    ·simp
    ·exact List.mem_cons_of_mem _ (h1 q hq)
   ·rw[show keys (p::l')=p.1::keys l' from rfl];exact List.nodup_cons.2 ⟨hp,h2⟩
   ·rw[show keys (p::l)=p.1::keys l from rfl,show keys (p::l')=p.1::keys l' from rfl,List.mem_cons,List.mem_cons,h3]
theorem AOps.freezeU{E:Env}{ops:Array Oper}{l:List Oper}{K:Cont}{fr:Fr}{σ:St}{t:LTr}(d:Nat)(ho:Owns σ.ou (objs t))(hd:Fr.get d fr=some (.one (.ptr (.o t.id) 0)))
  (h:AOps E ops l K ((d,.one (.box (cTr (erT t))))::fr) { σ with ou:=deadL σ.ou (keys (objs t)) }):AOps E ops l K fr σ:=by
 intro F w0 C0 w C tmps hgo hi hf
 obtain⟨l',q1,q2,q3⟩:=Qde (objs t)
 obtain⟨C',g1,g2,g3,g4⟩:=Q9i l' hi (fun p hp=>ho p (q1 p hp)) q2 fun p hp=>Q7a t p (q1 p hp)
 rw[show deadL σ.ou (keys l')=deadL σ.ou (keys (objs t))from funext fun j=>by unfold deadL;simp only[q3 j]]at g2
 refine h F w0 C0 w C' tmps (hgo.trans g1.toO) g2 ⟨hf.1,fun k x hk=>?_⟩
 simp only[Fr.get]at hk
 by_cases e:d=k
 ·subst e
  simp at hk
  subst hk
  obtain⟨u,hu,hr⟩:=hf.2 d _ hd
  simp only[RF,R]at hr
  exact⟨u,hu,_,hr.2,rfl,Qcd hi (g1.chg.weaken fun _ _=>trivial) t ho fun k hk=>g4 k ((q3 k).1 hk)⟩
 ·rw[Q0a e]at hk
  obtain⟨u,hu,hr⟩:=hf.2 k x hk
  exact⟨u,hu,hr.ext g1.chg⟩
structure Der (ou ou':Outer)(S:List (Nat×AObj))(u:LTr):Prop where
 old:∀j o,ou j=some o->ou' j=some o
 part:∀p∈objs u,p∈S∨(ou p.1=none/\ou' p.1=some p.2)
 ok:OuOk ou'
theorem Der.own{ou ou':Outer}{S:List (Nat×AObj)}{u:LTr}(h:Der ou ou' S u)(hS:Owns ou S):Owns ou' (objs u):=fun p hp=>by
 rcases h.part p hp with h1|⟨_,h1⟩
 ·exact h.old _ _ (hS p h1)
 ·exact h1
theorem Der.mono{ou ou':Outer}{S S':List (Nat×AObj)}{u:LTr}(h:Der ou ou' S u)(hS:∀p∈S,p∈S'):Der ou ou' S' u:=
 ⟨h.old,fun p hp=>(h.part p hp).imp (hS p) id,h.ok⟩
theorem Der.refl{ou:Outer}{S:List (Nat×AObj)}{u:LTr}(h:∀p∈objs u,p∈S)(hou:OuOk ou):Der ou ou S u:=⟨fun _ _ h=>h,fun p hp=>.inl (h p hp),hou⟩
theorem Der.pre{ou ou1 ou':Outer}{S:List (Nat×AObj)}{u:LTr}(h:Der ou1 ou' S u)(h0:∀j o,ou j=some o->ou1 j=some o):Der ou ou' S u:=by
 refine⟨fun j o hj=>h.old j o (h0 j o hj),fun p hp=>?_,h.ok⟩
 rcases h.part p hp with h1|⟨a,b⟩
 ·exact .inl h1
 ·refine .inr ⟨?_,b⟩
  cases ho:ou p.1 with
  |none=>rfl
  |some o=>rw[h0 _ _ ho]at a;cases a
theorem Der.not{ou ou':Outer}{S:List (Nat×AObj)}{u:LTr}(h:Der ou ou' S u){k:Nat}{o:AObj}(hk:ou k=some o)(hS:k∉keys S):k∉keys (objs u):=fun hm=>by
 obtain⟨q,hq⟩:=Q1r hm
 rcases h.part _ hq with h1|⟨h1,_⟩
 ·exact hS (Q0q h1)
 ·rw[hk]at h1;cases h1
end Go.Proofs.YtpaonemmbhbgoaaGreatDoor
namespace Go.CoreX
abbrev Step3:=Int×Int×Int
def Q0o:Nat->List Ex->List Ex×List Step3
 |0,out=>(out,[])
 |k+1,out=>match nextE out with
  |none=>(out,[])
  |some (r,i)=>if (Q0z out r i 0).2=0 then ((Q0o k (Q0z out r i 0).1).1,(r,(i:Int),0)::(Q0o k (Q0z out r i 0).1).2)else (out,[])
def simpE (e:List Ex)(b:Int):List Ex×List Step3×Int:=
 if check e≠0 then ([],[],check e)else if b < 0∨500 < b then ([],[],4)
 else ((Q0o b.toNat (listT [] (grow e))).1,(Q0o b.toNat (listT [] (grow e))).2,0)
def Ordd (e:List Ex):Prop:=check e=0/\listT [] (grow e)=e
theorem Qfc{e:List Ex}{r p n:Int}(h:(Q0z e r p n).2=0):Ordd (Q0z e r p n).1:=by
 unfold Q0z at h ⊢
 split at h
 ·rename_i h1;exact absurd h h1
 rename_i h1
 rw[if_neg h1]
 split at h
 ·cases h
 rename_i h2
 rw[if_neg h2]
 split at h
 ·cases h
 rename_i h3
 rw[if_neg h3]
 split at h
 ·cases h
 rename_i x hx
 split at h
 ·cases h
 rename_i h4
 rw[if_neg h4]
 exact⟨by simpa using h4,by rw[Q0b]⟩
theorem Qdm:∀(k:Nat){e:List Ex},Ordd e->Ordd (Q0o k e).1
 |0,e,h=>h
 |k+1,e,h=>by
  simp only[Q0o]
  split
  ·exact h
  ·rename_i r i _
   split
   ·rename_i h2;exact Qdm k (Qfc h2)
   ·exact h
theorem Qla{e:List Ex}(h:check (listT [] (grow e))=0):Ordd (listT [] (grow e)):=⟨h,by rw[Q0b]⟩
end Go.CoreX
namespace Go.CoreX
mutual
theorem Q85(id:Int):∀(t:Tr)(sc:List Int),occT sc t=[]->id∉sc->id∉bndT t->sumT (isVar id) t=0
 |.mk o n b ks a,sc,h,hs,hb=>by
  simp only[occT,List.append_eq_nil_iff]at h
  simp only[bndT,List.mem_append,not_or]at hb
  have h1:=Q8i id ks sc o b a 0 h.2 hs hb.1 hb.2
  have h2:isVar id ⟨o,n,b,ks.map Tr.op,a⟩=0:=by
   unfold isVar
   rw[if_neg]
   rintro⟨h3,h4⟩
   simp only at h3 h4
   have:sc.contains n=false:=by
    cases hc:sc.contains n with
    |false=>rfl
    |true=>rw[h4]at hc;exact absurd (by simpa using hc) hs
   have h5:=h.1
   rw[if_pos ⟨h3,this⟩]at h5
   cases h5
  simp only[sumT,h1,h2];rfl
theorem Q8i(id:Int):∀(l:List Tr)(sc:List Int)(o:Int)(b:List Int)(a:List Alt)(i:Nat),occTs sc o b a i l=[]->id∉sc->id∉Q08 o b a->id∉bndTs l->sumTs (isVar id) l=0
 |[],_,_,_,_,_,_,_,_,_=>by simp[sumTs]
 |t::l,sc,o,b,a,i,h,hs,ho,hb=>by
  simp only[occTs,List.append_eq_nil_iff]at h
  simp only[bndTs,List.mem_append,not_or]at hb
  have h1:=Q85 id t _ h.1 (fun hk=>(List.mem_append.1 hk).elim (fun h=>ho (Qf5 h)) hs) hb.1
  have h2:=Q8i id l sc o b a (i+1) h.2 hs ho hb.2
  simp only[sumTs,h1,h2];rfl
end
theorem Qlr(id:Int):∀(l:List Tr)(sc:List Int)(o:Int)(b:List Int)(a:List Alt)(i:Nat),occTs sc o b a i l=[]->id∉sc->id∉Q08 o b a->(bndTs l).Nodup->∀s∈l,id∈bndT s->
  sumTs (isVar id) l=sumT (isVar id) s/\∃sc',occT sc' s=[]/\id∉sc'
 | [], _, _, _, _, _, _, _, _, _, s, hs, _ => by cases hs
 |t::l,sc,o,b,a,i,h,hs,ho,hn,s,hsm,hid=>by
  simp only[occTs,List.append_eq_nil_iff]at h
  simp only[bndTs,List.nodup_append]at hn
  have hsc:id∉Q1p o b a i++sc:=fun hk=>(List.mem_append.1 hk).elim (fun h=>ho (Qf5 h)) hs
  have hmem:∀(l:List Tr) (s:Tr),s∈l->id∈bndT s->id∈bndTs l:=by
   intro l
   induction l with
   |nil=>intro s h;cases h
   |cons x l ih=>
    intro s h hi
    simp only[bndTs,List.mem_append]
    rcases List.mem_cons.1 h with rfl|h
    ·exact .inl hi
    ·exact .inr (ih s h hi)
  by_cases e:id∈bndT t
  ·have hl:id∉bndTs l:=fun h1=>hn.2.2 id e id h1 rfl
   have hst:s=t:=by
    rcases List.mem_cons.1 hsm with h1|h1
    ·exact h1
    ·exact absurd (hmem l s h1 hid) hl
   subst hst
   have h2:=Q8i id l sc o b a (i+1) h.2 hs ho hl
   exact⟨by simp only[sumTs,h2];omega,_,h.1,hsc⟩
  ·have hst:s∈l:=by
    rcases List.mem_cons.1 hsm with h1|h1
    ·subst h1;exact absurd hid e
    ·exact h1
   have h1:=Q85 id t _ h.1 hsc e
   obtain⟨h3,h4⟩:=Qlr id l sc o b a (i+1) h.2 hs ho hn.2.1 s hst hid
   exact⟨by simp only[sumTs,h1,h3];omega,h4⟩
theorem all_in{e:List Ex}(h:check e=0)(id:Int):∀k,k < e.length->id∈bndT (Q06 e k)->(bndT (Q06 e k)).Nodup/\sumT (isVar id) (grow e)=sumT (isVar id) (Q06 e k)/\∃sc,occT sc (Q06 e k)=[]/\id∉sc:=by
 obtain⟨_,_,_,p4⟩:=Q1j h
 refine Qda (Q0h h) (P:=fun s=>id∈bndT s->(bndT s).Nodup/\sumT (isVar id) (grow e)=sumT (isVar id) s/\∃sc,occT sc s=[]/\id∉sc) (fun _=>⟨Qf6 h,rfl,[],p4,by simp⟩) ?_
 intro t s ht hs hid
 cases t with
 |mk o n b ks a=>
  simp only[Tr.kids_mk]at hs
  have hmem:id∈bndTs ks:=by
   clear ht
   induction ks with
   |nil=>cases hs
   |cons x l ih=>
    simp only[bndTs,List.mem_append]
    rcases List.mem_cons.1 hs with rfl|h
    ·exact .inl hid
    ·exact .inr (ih h)
  obtain⟨h1,h2,sc,h3,h4⟩:=ht (by simp only[bndT,List.mem_append];exact .inr hmem)
  simp only[bndT,List.nodup_append]at h1
  have hno:id∉Q08 o b a:=fun hx=>h1.2.2 id hx id hmem rfl
  have h3':=h3
  simp only[occT,List.append_eq_nil_iff]at h3
  obtain⟨h5,h6⟩:=Qlr id ks sc o b a 0 h3.2 h4 hno h1.2.1 s hs hid
  have h7:isVar id ⟨o,n,b,ks.map Tr.op,a⟩=0:=by
   unfold isVar
   rw[if_neg]
   rintro⟨h8,h9⟩
   simp only at h8 h9
   have:sc.contains n=false:=by
    cases hc:sc.contains n with
    |false=>rfl
    |true=>rw[h9]at hc;exact absurd (by simpa using hc) h4
   have h10:=h3.1
   rw[if_pos ⟨h8,this⟩]at h10
   cases h10
  have hnd:(bndT s).Nodup:=by
   clear h5 h6 ht h3 h3' h2 hmem hno
   have:=h1.2.1
   clear h1
   induction ks with
   |nil=>cases hs
   |cons x l ih=>
    simp only[bndTs,List.nodup_append]at this
    rcases List.mem_cons.1 hs with rfl|h
    ·exact this.1
    ·exact ih h (by unfold isVar at h7 ⊢;exact h7) this.2.1
  refine⟨hnd,?_,h6⟩
  rw[h2]
  simp only[sumT,h7,h5];omega
end Go.CoreX
namespace Go.CoreX
mutual
theorem Qbw(id:Int):∀t:Tr,allT shLab t->(usesN id t:Int)=sumT (isVar id) t
 |.mk o n b k a,h=>by
  have h1:=Qh0 id k h.2
  simp only[usesN,sumT]
  by_cases e:o=0
  ·have hk:k=[]:=by have:=(h.1.v e).2;simpa using this
   subst hk
   rw[if_pos e]
   by_cases e2:n=id
   ·rw[if_pos e2];unfold isVar;rw[if_pos ⟨e,e2⟩];simp[sumTs]
   ·rw[if_neg e2];unfold isVar;rw[if_neg (fun h=>e2 h.2)];simp[sumTs]
  ·rw[if_neg e,h1]
   have:isVar id ⟨o,n,b,k.map Tr.op,a⟩=0:=by unfold isVar;rw[if_neg (fun h=>e h.1)]
   omega
theorem Qh0(id:Int):∀l:List Tr,allTs shLab l->(Q4m id l:Int)=sumTs (isVar id) l
 |[],_=>by simp[Q4m,sumTs]
 |t::l,h=>by simp only[Q4m,sumTs];have:=Qbw id t h.1;have:=Qh0 id l h.2;omega
end
theorem Qhy{e:List Ex}(h:IsTree e)(id:Int):(manyE e id:Int)=sumT (isVar id) (grow e):=by
 rw[←Q32 _ h]
 unfold manyE labs
 have:∀l:List Ex,((l.countP fun x=>x.op==0&&x.n==id:Nat):Int)=((l.map (labE e)).map (isVar id)).sum:=by
  intro l
  induction l with
  |nil=>rfl
  |cons x l ih=>
   rw[List.countP_cons,List.map_cons,List.map_cons,List.sum_cons,←ih]
   have:isVar id (labE e x)=if (x.op==0&&x.n==id)=true then 1 else 0:=by
    unfold isVar labE
    by_cases h1:x.op=0 <;> by_cases h2:x.n=id <;> simp[h1,h2]
   rw[this]
   split <;> push_cast <;> omega
 exact this e
theorem Q1l{p:Lab->Prop}{t s:Tr}(ht:allT p t)(h:s∈t.kids):allT p s:=by
 cases t with
 |mk o n b k a=>
  have:∀l:List Tr,allTs p l->s∈l->allT p s:=by
   intro l
   induction l with
   |nil=>intro _ h;cases h
   |cons x l ih=>
    intro h1 h2
    rcases List.mem_cons.1 h2 with rfl|h2
    ·exact h1.1
    ·exact ih h1.2 h2
  exact this k ht.2 h
theorem Qi2{e:List Ex}(h:check e=0){k:Nat}(hk:k < e.length)(h4:(Q06 e k).op=4):∃id v body,(Q06 e k).binds=[id]/\(Q06 e k).kids=[v,body]/\usesN id body=manyE e id:=by
 obtain⟨x,hx⟩:∃x,e[k]?=some x:=⟨_,List.getElem?_eq_getElem hk⟩
 have t1:=Q0h h
 have hnode:=Q2d t1.k hx
 have hsh:=Qc4 h x (List.mem_of_getElem? hx)
 have hop:x.op=4:=by rw[hnode]at h4;exact h4
 have hw:wants x=some (2,1,false):=by unfold wants;simp[hop]
 unfold shape at hsh
 rw[if_neg (by omega),hw]at hsh
 simp only[Bool.and_eq_true,beq_iff_eq]at hsh
 obtain⟨⟨⟨h1,h2⟩,_⟩,_⟩:=hsh
 obtain⟨id,hid⟩:∃id,x.binds=[id]:=List.length_eq_one_iff.1 (by omega)
 obtain⟨p,q,hpq⟩:∃p q,x.kids=[p,q]:=by
  have hl:x.kids.length=2:=by omega
  match x.kids,hl with
  |[p,q],_=>exact⟨p,q,rfl⟩
 refine⟨id,Q06 e p.toNat,Q06 e q.toNat,by rw[hnode];exact hid,by rw[hnode,hpq];rfl,?_⟩
 have hall:allT shLab (Q06 e k):=Qda t1 (Q60 h) (fun t s ht hs=>Q1l ht hs) k hk
 have hin:id∈bndT (Q06 e k):=by rw[hnode];simp[bndT,Q08,hop,hid]
 obtain⟨hnd,hsum,sc,hocc,hsc⟩:=all_in h id k hk hin
 rw[hnode,hpq,hid,hop]at hnd hsum hocc hall
 simp only[List.map_cons,List.map_nil]at hnd hsum hocc hall
 simp only[occT,occTs,List.append_eq_nil_iff]at hocc
 have hv:sumT (isVar id) (Q06 e p.toNat)=0:=by
  refine Q85 id _ _ hocc.2.1 (fun hm=>?_) ?_
  ·rcases List.mem_append.1 hm with hm|hm
   ·unfold Q1p at hm
    rw[if_neg (by decide)]at hm
    split at hm
    ·rename_i h9;simp at h9
    ·cases hm
   ·exact hsc hm
  ·intro hm
   simp only[bndT,bndTs,List.nodup_append]at hnd
   refine hnd.2.2 id (by simp[Q08]) id ?_ rfl
   exact List.mem_append_left _ hm
 have hb:=Qbw id _ (hall.2.2.1)
 have hm:=Qhy t1 id
 rw[hsum]at hm
 simp only[sumT,sumTs,hv]at hm
 have h7:isVar id ⟨4,x.n,[id],[(Q06 e p.toNat).op,(Q06 e q.toNat).op],x.alts⟩=0:=by unfold isVar;rw[if_neg (by simp)]
 simp only[List.map_cons,List.map_nil]at hm
 rw[h7]at hm
 omega
end Go.CoreX
namespace Go.CoreX
def shpL (l:Lab):Prop:=shape ⟨l.op,l.n,l.binds,l.ops,l.alts⟩=true
theorem Qf4{e:List Ex}(h:check e=0):allT shpL (grow e):=Q6w (Q0h h) fun x hx=>by
 have:=Qc4 h x hx
 unfold shpL labE
 rw[Q8t (ky:=x.kids) (by simp)]
 exact this
theorem Q2v{e:List Ex}(h:IsTree e){p:Lab->Prop}(ht:allT p (grow e)){k:Nat}(hk:k < e.length):allT p (Q06 e k):=
 Qda h (P:=allT p) ht (fun t s h1 h2=>Q1l h1 h2) k hk
theorem Qh7{t:Tr}(h:allT shpL t):shape ⟨t.op,t.n,t.binds,t.kids.map Tr.op,t.alts⟩=true:=by
 cases t with
 |mk o n b k a=>exact h.1
section
variable {o n:Int}{b:List Int}{k:List Tr}{a:List Alt}(h:allT shpL (.mk o n b k a))
include h
theorem Q3d{w:Int×Int×Bool}(h7:¬(o=7∨o=13))(hw:wants ⟨o,n,b,k.map Tr.op,a⟩=some w):(k.length:Int)=w.1/\(b.length:Int)=w.2.1/\a=[]:=by
 have:=Qh7 h
 simp only[Tr.op_mk,Tr.n_mk,Tr.binds_mk,Tr.kids_mk,Tr.alts_mk]at this
 unfold shape at this
 rw[if_neg h7,hw]at this
 simp only[Bool.and_eq_true,beq_iff_eq,List.length_map,List.length_eq_zero_iff]at this
 exact⟨this.1.1.1,this.1.1.2,this.1.2⟩
theorem Qh8(h0:o=0∨o=1):k=[]/\b=[]/\a=[]:=by
 obtain⟨h1,h2,h3⟩:=Q3d h (w:=(0,0,true)) (by omega) (by unfold wants;rw[if_pos (by simp only;omega)])
 refine⟨List.length_eq_zero_iff.1 ?_,List.length_eq_zero_iff.1 ?_,h3⟩ <;> simp at h1 h2 <;> simp[h1,h2]
theorem shp_lam(h0:o=2):k.length=1/\a=[]:=by
 subst h0
 obtain⟨h1,h2,h3⟩:=Q3d h (w:=(1,b.length,false)) (by omega) rfl
 exact⟨by simp at h1;omega,h3⟩
theorem Qfp(h0:o=3):k≠[]/\b=[]/\a=[]:=by
 subst h0
 obtain⟨h1,h2,h3⟩:=Q3d h (by omega) rfl
 simp only[List.length_map]at h1 h2
 refine⟨fun e=>?_,List.length_eq_zero_iff.1 (by omega),h3⟩
 subst e
 simp at h1
theorem Qfo(h0:o=4):∃id v d,b=[id]/\k=[v,d]/\a=[]:=by
 subst h0
 obtain⟨h1,h2,h3⟩:=Q3d h (w:=(2,1,false)) (by omega) rfl
 obtain⟨id,hid⟩:=List.length_eq_one_iff.1 (show b.length=1 by simp at h2;omega)
 have h2:k.length=2:=by simp at h1;omega
 match k,h2 with
 |[v,d],_=>exact⟨id,v,d,hid,rfl,h3⟩
theorem Qfn(h0:o=5):k.length=b.length+1/\a=[]:=by
 subst h0
 obtain⟨h1,h2,h3⟩:=Q3d h (w:=(b.length+1,if (b.length:Int) > 1 then b.length else 1,false)) (by omega) rfl
 exact⟨by simp at h1;omega,h3⟩
theorem Qc3(h0:o=7):k.length=a.length+1/\b=[]:=by
 subst h0
 have:=Qh7 h
 simp only[Tr.op_mk,Tr.n_mk,Tr.binds_mk,Tr.kids_mk,Tr.alts_mk]at this
 have h1:=Qj7 this
 rw[if_pos (by simp)]at h1
 unfold shape at this
 rw[if_pos (by simp)]at this
 simp only[Bool.and_eq_true,beq_iff_eq,List.length_eq_zero_iff]at this
 exact⟨by simpa using h1,this.1.2⟩
theorem shp_row(h0:o=9):k.length=b.length:=by
 subst h0
 obtain⟨h1,h2,h3⟩:=Q3d h (w:=(b.length,b.length,false)) (by omega) rfl
 simp at h1;omega
theorem Qkj(h0:o=10):k.length=1:=by
 subst h0
 obtain⟨h1,h2,h3⟩:=Q3d h (w:=(1,0,true)) (by omega) rfl
 simp at h1;omega
end
theorem Q9x{t s:Tr}(h:s∈t.kids):cntN s+1<=cntN t:=by
 cases t with
 |mk o n b k a=>
  simp only[Tr.kids_mk]at h
  simp only[cntN]
  induction k with
  |nil=>cases h
  |cons x l ih=>
   simp only[cntNs]
   rcases List.mem_cons.1 h with rfl|h
   ·omega
   ·have:=ih h;omega
theorem Qcv(t:Tr):1<=cntN t:=by cases t;simp[cntN]
theorem Qcx(t:Tr)(i:Nat):cntN (kidT t i)<=cntN t:=by
 unfold kidT
 by_cases h:i < t.kids.length
 ·rw[List.getD_eq_getElem?_getD,List.getElem?_eq_getElem h]
  have:=Q9x (List.getElem_mem h)
  simp only[Option.getD_some];omega
 ·rw[List.getD_eq_getElem?_getD,List.getElem?_eq_none (by omega)]
  exact Qcv t
theorem Qoj{p:Lab->Prop}(hp:p ⟨0,0,[],[],[]⟩):allT p default:=⟨hp,trivial⟩
theorem Q6u{p:Lab->Prop}(hp:p ⟨0,0,[],[],[]⟩){t:Tr}(h:allT p t)(i:Nat):allT p (kidT t i):=by
 unfold kidT
 by_cases hi:i < t.kids.length
 ·rw[List.getD_eq_getElem?_getD,List.getElem?_eq_getElem hi]
  exact Q1l h (List.getElem_mem hi)
 ·rw[List.getD_eq_getElem?_getD,List.getElem?_eq_none (by omega)]
  exact Qoj hp
theorem Qfv:pOk ⟨0,0,[],[],[]⟩:=⟨by simp,by simp,by simp,by simp,by simp⟩
theorem Q94(id:Int){v d:Tr}(hv:allT pOk v)(hd:allT pOk d):allT pOk (letT id v d):=⟨⟨by simp,by simp,by simp,by simp,by simp⟩,hv,hd,trivial⟩
theorem Qcc{d:Tr}(hd:allT pOk d):∀(ids:List Int)(l:List Tr),(∀t∈l,allT pOk t)->allT pOk (letsT ids l d)
 |[],_,_=>by simpa[letsT]using hd
 |_::_,[],_=>by simpa[letsT]using hd
 |i::is,t::l,h=>Q94 i (h t (by simp)) (Qcc hd is l fun s hs=>h s (by simp[hs]))
theorem Q9w(id:Int)(v d:Tr):cntN (letT id v d)=cntN v+cntN d+1:=by simp[letT,cntN,cntNs]
theorem Qcw(d:Tr):∀(ids:List Int)(l:List Tr),cntN (letsT ids l d)<=cntN d+2 * cntNs l
 |[],l=>by simp[letsT]
 |_::_,[]=>by simp[letsT]
 |i::is,t::l=>by
  have h1:=Qcw d is l
  have h2:=Qcv t
  simp only[letsT,Q9w,cntNs];omega
theorem Qdh(id:Int)(v:Tr):∀l:List Tr,(subTs id v l).length=l.length
 |[]=>rfl
 |t::l=>by simp[subTs,Qdh id v l]
mutual
theorem Qfu{id:Int}{v:Tr}(hv:allT pOk v):∀t:Tr,allT pOk t->allT pOk (subT id v t)
 |.mk o n b k a,h=>by
  simp only[subT]
  split
  ·split
   ·exact hv
   ·exact h
  ·obtain⟨h1,h2⟩:=h
   refine⟨⟨h1.b,?_,h1.a,h1.ab,h1.s⟩,Qho hv k h2⟩
   have:=h1.k
   simp only[List.length_map]at this ⊢
   rw[Qdh];exact this
theorem Qho{id:Int}{v:Tr}(hv:allT pOk v):∀l:List Tr,allTs pOk l->allTs pOk (subTs id v l)
 |[],_=>trivial
 |t::l,h=>⟨Qfu hv t h.1,Qho hv l h.2⟩
end
mutual
theorem Qgi(id:Int)(v:Tr):∀t:Tr,cntN (subT id v t)<=cntN t+usesN id t * (cntN v - 1)
 |.mk o n b k a=>by
  simp only[subT,usesN]
  split
  ·split
   ·simp only[cntN];have:=Qcv v;omega
   ·simp
  ·have:=Qit id v k
   simp only[cntN];omega
theorem Qit(id:Int)(v:Tr):∀l:List Tr,cntNs (subTs id v l)<=cntNs l+Q4m id l * (cntN v - 1)
 |[]=>by simp[subTs,cntNs]
 |t::l=>by
  have h1:=Qgi id v t
  have h2:=Qit id v l
  simp only[subTs,cntNs,Q4m,Nat.add_mul];omega
end
theorem Qbj(t:Tr):cntNs t.kids+1=cntN t:=by cases t;simp[cntN]
theorem Qju(l:List Tr):cntNs l.tail<=cntNs l:=by cases l <;> simp[cntNs]
theorem Qog{v:Tr}(hv:allT shpL v)(h:atomT v=true):cntN v=1:=by
 cases v with
 |mk o n b k a=>
  have hk:k=[]:=by
   simp only[atomT,Tr.op_mk,Tr.kids_mk,Bool.or_eq_true,beq_iff_eq,Bool.and_eq_true,List.length_eq_zero_iff]at h
   rcases h with (h|h)|⟨_,h⟩
   ·exact (Qh8 hv (.inl h)).1
   ·exact (Qh8 hv (.inr h)).1
   ·exact h
  subst hk
  simp[cntN,cntNs]
theorem Q9y{P Q:Tr->Prop}{con X:Tr}(hpq:∀d,P d->Q d)(hlet:∀ids,∀d,P d->Q (letsT ids con.kids d)):∀(as':List Alt)(ks:List Tr),(∀k∈ks,P k)->Q3x con as' ks=some X->Q X
 | [], _, _, h => by simp [Q3x] at h
 |_::_,[],_,h=>by simp[Q3x]at h
 |a::as',k::ks,hk,h=>by
  simp only[Q3x]at h
  split at h
  ·split at h
   ·cases h
   ·cases h
    exact hlet _ _ (hk k (by simp))
  ·split at h
   ·cases h
    exact hpq _ (hk _ (by simp))
   ·exact Q9y hpq hlet as' ks (fun s hs=>hk s (by simp[hs])) h
theorem Qcs{n:Int}{X:Tr}:∀(bs:List Int)(ks:List Tr),Q58 n bs ks=some X->X∈ks
 |[],_,h=>by simp[Q58]at h
 |_::_,[],h=>by simp[Q58]at h
 |b::bs,k::ks,h=>by
  simp only[Q58]at h
  split at h
  ·cases h;simp
  ·exact List.mem_cons_of_mem _ (Qcs bs ks h)
theorem Qiy{P:Tr->Prop}{t X:Tr}(hw:∀n,P (wordT n))(hf:∀b,P (flagT b))(h:Q82 t=some X):P X:=by
 unfold Q82 at h
 dsimp only at h
 repeat' split at h
 all_goals first
  |(cases h;done)
  |(cases h;exact hw _)
  |(cases h;exact hf _)
theorem Qmg{id:Int}{t X:Tr}:∀(bs:List Int)(i:Nat),defN id t bs i=some X->X.op=2/\∃j,X=kidT t j
 |[],_,h=>by simp[defN]at h
 |b::bs,i,h=>by
  simp only[defN]at h
  split at h
  ·rename_i hc
   cases h
   exact⟨hc.2.2,_,rfl⟩
  ·exact Qmg bs (i+1) h
theorem Qgg{id:Int}{X:Tr}:∀(l:List Tr),defT id l=some X->X.op=2/\∃t∈l,∃j,X=kidT t j
 |[],h=>by simp[defT]at h
 |t::l,h=>by
  simp only[defT]at h
  split at h
  ·rename_i hf
   cases h
   obtain⟨h1,h2⟩:=Qmg _ _ hf
   exact⟨h1,t,by simp,h2⟩
  ·obtain⟨h1,s,h2,h3⟩:=Qgg l h
   exact⟨h1,s,by simp[h2],h3⟩
theorem mem_set{l:List Tr}{i:Nat}{v s:Tr}(h:s∈l.set i v):s∈l∨s=v:=List.mem_or_eq_of_mem_set h
theorem Qf0:∀(l:List Tr)(i:Nat)(v:Tr),cntNs (l.set i v)<=cntNs l+cntN v
 |[],_,_=>by simp[cntNs]
 |t::l,0,v=>by simp only[List.set_cons_zero,cntNs];omega
 |t::l,i+1,v=>by have:=Qf0 l i v;simp only[List.set_cons_succ,cntNs];omega
theorem Qkv{nodes:List Tr}{root t X:Tr}{rule n:Int}(ht:allT pOk t)(hN:∀s∈nodes,allT pOk s)(h:resT nodes root rule n t=some X):allT pOk X:=by
 have hk:∀i,allT pOk (kidT t i):=Q6u Qfv ht
 have hkk:∀i j,allT pOk (kidT (kidT t i) j):=fun i=>Q6u Qfv (hk i)
 have hkm:∀s∈t.kids,allT pOk s:=fun s hs=>Q1l ht hs
 have hkkm:∀i,∀s∈(kidT t i).kids,allT pOk s:=fun i s hs=>Q1l (hk i) hs
 unfold resT at h
 split at h
 ·cases h
 split at h
 ·cases h
  exact Qcc (hkk 0 0) _ _ fun s hs=>hkm s (List.mem_of_mem_tail hs)
 split at h
 ·unfold Q5g at h
  dsimp only at h
  split at h
  ·cases h;exact Qfu (hk 0) _ (hk 1)
  split at h
  ·cases h;exact hk 1
  split at h
  ·cases h;exact Q94 _ (hkk 0 0) (Q94 _ (hkk 0 1) (hk 1))
  split at h
  ·cases h
   have hv:=hk 0
   cases hv0:kidT t 0 with
   |mk o' n' b' k' a'=>
    rw[hv0]at hv
    obtain⟨hl,_⟩:=hv
    refine⟨⟨by simp,by simp,hl.a,hl.ab,?_⟩,?_,?_,trivial⟩
    ·have:=hl.s
     simp only[Tr.alts_mk,List.length_nil]at this ⊢;omega
    ·rw[←hv0];exact hkk 0 0
    ·rw[←hv0];exact Q94 _ (hkk 0 1) (hk 1)
  split at h
  ·cases h;exact Qfu (hk 0) _ (hk 1)
  ·cases h
 split at h
 ·cases h;exact hk _
 split at h
 ·exact Q9y (P:=allT pOk) (Q:=allT pOk) (fun _ h=>h) (fun ids d hd=>Qcc hd _ _ (hkkm 0)) _ _ (fun s hs=>hkm s (List.mem_of_mem_tail hs)) h
 split at h
 ·exact Qiy (P:=allT pOk) (fun n=>⟨⟨by simp,by simp,by simp,by simp,by simp⟩,trivial⟩) (fun b=>⟨⟨by simp,by simp,by simp,by simp,by simp⟩,trivial⟩) h
 split at h
 ·unfold Q9p at h
  dsimp only at h
  split at h
  ·cases h
  ·exact hkkm 0 _ (Qcs _ _ h)
 split at h
 ·unfold Qea at h
  split at h
  ·cases h
  split at h
  ·cases h
  ·cases h
   refine Q94 _ (hk _) ?_
   cases t with
   |mk o' n' b' k' a'=>
    obtain⟨hl,hl2⟩:=ht
    refine⟨⟨hl.b,?_,hl.a,hl.ab,hl.s⟩,Q45.2 fun s hs=>?_⟩
    ·have:=hl.k
     simpa using this
    ·rcases mem_set hs with h1|rfl
     ·exact Q45.1 hl2 s h1
     ·exact⟨⟨by simp,by simp,by simp,by simp,by simp⟩,trivial⟩
 split at h
 ·unfold Q8o at h
  rw[Option.map_eq_some_iff]at h
  obtain⟨f,hf,rfl⟩:=h
  obtain⟨_,s,hs,j,rfl⟩:=Qgg _ hf
  exact Qkr _ _ _ (Q6u Qfv (hN s hs) j)
 ·cases h
theorem res_cnt{nodes:List Tr}{root t X:Tr}{rule n:Int}{m:Nat}(hs:allT shpL t)(ht:cntN t<=m)(hN:∀s∈nodes,cntN s<=m)(h:resT nodes root rule n t=some X):cntN X<=4 * m+4:=by
 have hk:∀i,cntN (kidT t i)<=m:=fun i=>Nat.le_trans (Qcx t i) ht
 have hkk:∀i j,cntN (kidT (kidT t i) j)<=m:=fun i j=>Nat.le_trans (Qcx _ j) (hk i)
 have hkm:∀s∈t.kids,cntN s<=m:=fun s hs=>by have:=Q9x hs;omega
 have hks:=Qbj t
 have hkt:=Qju t.kids
 have hkks:∀i,cntNs (kidT t i).kids<=m:=fun i=>by have:=Qbj (kidT t i);have:=hk i;omega
 unfold resT at h
 split at h
 ·cases h
 split at h
 ·cases h
  have h1:=Qcw (kidT (kidT t 0) 0) (kidT t 0).binds t.kids.tail
  have:=hkk 0 0
  omega
 split at h
 ·unfold Q5g at h
  dsimp only at h
  split at h
  ·cases h
   rename_i hc
   have h1:=Qgi (t.binds.getD 0 0) (kidT t 0) (kidT t 1)
   have hd:shpL ⟨0,0,[],[],[]⟩:=by unfold shpL;decide
   rw[Qog (Q6u hd hs 0) hc.2]at h1
   have:=hk 1
   omega
  split at h
  ·cases h;have:=hk 1;omega
  split at h
  ·cases h
   rw[Q9w,Q9w]
   have:=hk 1;have:=hkk 0 0;have:=hkk 0 1
   omega
  split at h
  ·cases h
   simp only[cntN,cntNs,Q9w]
   have:=hk 1;have:=hkk 0 0;have:=hkk 0 1
   omega
  split at h
  ·cases h
   rename_i hc
   have h1:=Qgi (t.binds.getD 0 0) (kidT t 0) (kidT t 1)
   rw[hc.2.2,Nat.one_mul]at h1
   have:=hk 1;have:=hk 0
   omega
  ·cases h
 split at h
 ·cases h;have:=hk t.binds.length;omega
 split at h
 ·refine Q9y (P:=fun s=>cntN s<=m) (Q:=fun s=>cntN s<=4 * m+4) (con:=kidT t 0) (fun d hd=>by omega) ?_ t.alts t.kids.tail (fun s hs=>hkm s (List.mem_of_mem_tail hs)) h
  intro ids d hd
  have h1:=Qcw d ids (kidT t 0).kids
  have:=hkks 0
  omega
 split at h
 ·refine Qiy (P:=fun s=>cntN s<=4 * m+4) (fun n=>?_) (fun b=>?_) h
  ·simp[wordT,cntN,cntNs]
  ·simp[flagT,cntN,cntNs]
 split at h
 ·unfold Q9p at h
  dsimp only at h
  split at h
  ·cases h
  ·have:=Q9x (Qcs _ _ h)
   have:=hk 0
   omega
 split at h
 ·unfold Qea at h
  split at h
  ·cases h
  split at h
  ·cases h
  ·cases h
   rw[Q9w]
   have h1:=Qf0 t.kids n.toNat (.mk 0 (mostT root+1) [] [] [])
   have h2:cntN (.mk 0 (mostT root+1) [] [] [])=1:=by simp[cntN,cntNs]
   have:=hk n.toNat
   simp only[cntN]at h1 h2 ⊢
   omega
 split at h
 ·unfold Q8o at h
  rw[Option.map_eq_some_iff]at h
  obtain⟨f,hf,rfl⟩:=h
  obtain⟨_,s,hs,j,rfl⟩:=Qgg _ hf
  rw[Qks]
  have:=Qcx s j
  have:=hN s hs
  omega
 ·cases h
end Go.CoreX
namespace Go.CoreX
open Go.Abs (orI)
theorem Q64:∀{l:List Tr},valTs l=true↔∀t∈l,valT t=true
 |[]=>by simp[valTs]
 |t::l=>by simp[valTs,Q64 (l:=l)]
theorem Qk0{e:List Ex}{r at' n:Int}(ha:(Q0z e r at' n).2=0):check e=0/\(1<=r/\r<=12)/\(0<=at'/\at' < (e.length:Int))/\∃X,resT (growL e) (grow e) r n (Q06 e at'.toNat)=some X/\check (listT [] (growR e at'.toNat X))=0/\Q0z e r at' n=(listT [] (growR e at'.toNat X),0):=by
 unfold Q0z at ha ⊢
 split at ha
 ·rename_i h1;exact absurd ha h1
 rename_i h1
 split at ha
 ·cases ha
 rename_i h2
 split at ha
 ·cases ha
 rename_i h3
 split at ha
 ·cases ha
 rename_i X hX
 split at ha
 ·cases ha
 rename_i h4
 refine⟨by simpa using h1,by omega,by omega,X,hX,by simpa using h4,?_⟩
 rw[if_neg h4,if_neg h1,if_neg h2,if_neg h3]
end Go.CoreX
namespace Go.CoreX
theorem Qb0{e:List Ex}{r:Int}{i:Nat}(h:nextE e=some (r,i)):r∈Q53/\i < e.length/\canT r (Q06 e i) (manyE e)=true:=by
 unfold nextE at h
 obtain⟨r',hr',h1⟩:=List.exists_of_findSome?_eq_some h
 rw[Option.map_eq_some_iff]at h1
 obtain⟨⟨t,j⟩,h2,h3⟩:=h1
 cases h3
 have h4:=List.find?_some h2
 have h5:=List.mem_of_find?_eq_some h2
 rw[List.mem_zipIdx_iff_getElem?]at h5
 simp only at h4 h5
 have h6:=(List.getElem?_eq_some_iff.1 h5).1
 rw[Q0c]at h6
 refine⟨hr',h6,?_⟩
 have:Q06 e j=t:=by unfold Q06;rw[List.getD_eq_getElem?_getD,h5];rfl
 rw[this]
 exact h4
theorem Q8s:∀(k:Nat)(e:List Ex),(Q0o k e).2.length<=k
 |0,e=>by simp[Q0o]
 |k+1,e=>by
  simp only[Q0o]
  split
  ·simp
  ·rename_i r i _
   split
   ·simp only[List.length_cons];have:=Q8s k (Q0z e r i 0).1;omega
   ·simp
end Go.CoreX
namespace Go.CoreX
theorem Qkm{e:List Ex}(h:check e=0):same e e=true:=by simp[same,h,Qc5]
theorem Qdo{e:List Ex}(he:check e=0){b:Nat}(hb:b<=500):simpE e b=((Q0o b (listT [] (grow e))).1,(Q0o b (listT [] (grow e))).2,0):=by
 unfold simpE
 rw[if_neg (by simpa using he),if_neg (by omega),show ((b:Int).toNat)=b by simp]
end Go.CoreX
