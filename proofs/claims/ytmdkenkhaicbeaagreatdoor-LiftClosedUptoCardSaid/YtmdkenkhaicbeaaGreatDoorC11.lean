/- lift: own trees whose kids can grow: each node keeps the token of its kids. -/
import Derived.Test.YtmdkenkhaicbeaaGreatDoorC10
set_option maxRecDepth 10000
set_option linter.unusedVariables false
set_option linter.unusedSimpArgs false
namespace Go.CoreX
inductive LTk where
 |mk (id tk:Nat) (op n:Int) (binds:List Int) (kids:List LTk) (alts:List Alt)
instance:Inhabited LTk:=⟨.mk 0 0 0 0 [] [] []⟩
def LTk.id:LTk->Nat|.mk i _ _ _ _ _ _=>i
def LTk.kids:LTk->List LTk|.mk _ _ _ _ _ k _=>k
def LTk.op:LTk->Int|.mk _ _ o _ _ _ _=>o
def LTk.n:LTk->Int|.mk _ _ _ n _ _ _=>n
mutual
def erK:LTk->Tr
 |.mk _ _ o n b k a=>.mk o n b (erKs k) a
def erKs:List LTk->List Tr
 |[]=>[]
 |t::ts=>erK t::erKs ts
end
theorem Q2p:∀l:List LTk,erKs l=l.map erK
 |[]=>rfl
 |t::l=>by simp[erKs,Q2p l]
theorem Q0w(l:List LTk):(erKs l).length=l.length:=by simp[Q2p]
theorem Q1g(l r:List LTk):erKs (l++r)=erKs l++erKs r:=by simp[Q2p]
theorem Q3s{l:List LTk}{t:LTk}(h:t∈l):erK t∈erKs l:=by rw[Q2p];exact List.mem_map_of_mem h
def toA (x:Alt):LAlt:=⟨x.tag,none,x.binds⟩
mutual
def lsL:LTk->LTr
 |.mk i _ o n b k a=>.mk i o n none b (lsLs k) (a.map toA)
def lsLs:List LTk->List LTr
 |[]=>[]
 |t::ts=>lsL t::lsLs ts
end
theorem Qfi:∀l:List LTk,lsLs l=l.map lsL
 |[]=>rfl
 |t::l=>by simp[lsLs,Qfi l]
theorem Qge:∀t:LTk,(lsL t).id=t.id
 |.mk _ _ _ _ _ _ _=>rfl
mutual
theorem Qcj:∀t:LTk,erT (lsL t)=erK t
 |.mk i tk o n b k a=>by
  simp only[lsL,erT,erK,Q5n k,List.map_map]
  congr 1
  exact List.map_id'' (fun x=>by cases x;rfl) a
theorem Q5n:∀l:List LTk,erTs (lsLs l)=erKs l
 |[]=>rfl
 |t::l=>by simp only[lsLs,erTs,erKs,Qcj t,Q5n l]
end
end Go.CoreX
namespace Go.Proofs.YtmdkenkhaicbeaaGreatDoor
open Go Go.Abs Go.CoreX
variable {Γ:List (Nat×List AC)}
def kK (l:List LTk):List (List AC):=l.map fun t=>[.ptr (.o t.id) 0]
def nK (tk:Nat)(o n:Int)(b:List Int)(ks:List LTk)(a:List Alt):AObj:=.cells [int o,int n,.sl 1 (b.map cI),.gs 1 (kK ks) (.o tk),.sl 2 (a.map cAlt)]
def tO (k:Nat):AObj:=.tok 68 1 k
mutual
def obK:LTk->List (Nat×AObj)
 |.mk i tk o n b k a=>(i,nK tk o n b k a)::(tk,tO k.length)::obKs k
def obKs:List LTk->List (Nat×AObj)
 |[]=>[]
 |t::ts=>obK t++obKs ts
end
theorem Q9k:∀l:List LTk,obKs l=l.flatMap obK
 |[]=>rfl
 |t::l=>by simp[obKs,Q9k l]
theorem Q16(l r:List LTk):obKs (l++r)=obKs l++obKs r:=by simp[Q9k]
theorem ownsK{ou:Outer}{i tk:Nat}{o n:Int}{b:List Int}{k:List LTk}{a:List Alt}(h:Owns ou (obK (.mk i tk o n b k a))):ou i=some (nK tk o n b k a)/\ou tk=some (tO k.length)/\Owns ou (obKs k):=
 ⟨h (i,nK tk o n b k a) (by rw[obK];exact List.mem_cons_self),h (tk,tO k.length) (by rw[obK];exact List.mem_cons_of_mem _ List.mem_cons_self),fun p hp=>h p (by rw[obK];exact List.mem_cons_of_mem _ (List.mem_cons_of_mem _ hp))⟩
theorem Q8e{ou:Outer}{l:List LTk}(h:Owns ou (obKs l)){t:LTk}(ht:t∈l):Owns ou (obK t):=fun p hp=>h p (by rw[Q9k];exact List.mem_flatMap.2 ⟨t,ht,hp⟩)
theorem Q1s(l:List LTk):(kK l).length=l.length:=by simp[kK]
theorem Q8p{l:List LTk}{i:Nat}{t:LTk}(h:l[i]?=some t):(kK l)[i]?=some [.ptr (.o t.id) 0]:=by simp[kK,h]
theorem Qc9(l:List LTk):kC (lsLs l)=kK l:=by
 rw[Qfi]
 unfold kC kK
 rw[List.map_map]
 exact List.map_congr_left fun t _=>by simp[Qge]
theorem Qj8(a:List Alt):(a.map toA).map lAlt=a.map cAlt:=by
 rw[List.map_map]
 exact List.map_congr_left fun x _=>rfl
theorem Qh0(p:Abs.Id->Prop)(hp:∀k,p (.o k)):∀l:List LTk,idsS p (kK l)
 |[]=>trivial
 |t::l=>⟨⟨hp _,trivial⟩,Qh0 p hp l⟩
@[simp] theorem Q9v (l:List LTk):idsS isO (kK l):=Qh0 _ (fun _=>trivial) l
@[simp] theorem ids_kK_l (k:Nat) (l:List LTk):idsS (inL k) (kK l):=Qh0 _ (fun _=>trivial) l
@[simp] theorem ren_kK (ρ:Nat->Nat) (l:List LTk):renS ρ (kK l)=kK l:=Q1i ρ _ (Q9v l)
theorem Qb3(tk:Nat)(o n:Int)(b:List Int)(ks:List LTk)(a:List Alt):(nK tk o n b ks a).ids isO:=by
 simp[nK,AObj.ids,AC.ids,idsL,isO]
-- The same, told less of: kids that don't grow.
mutual
theorem Q9l:∀t:LTk,∀p∈objs (lsL t),∃tk o n b k a,p.2=.cells [int o,int n,.sl 1 (b.map cI),.sl 1 (kK k),.sl 2 (a.map cAlt)]/\(p.1,nK tk o n b k a)∈obK t
 |.mk i tk o n b k a,p,hp=>by
  simp only[lsL,Qbz,bO,List.nil_append,List.mem_cons,List.mem_append]at hp
  rcases hp with rfl|hp|hp
  ·refine⟨tk,o,n,b,k,a,?_,by simp[obK]⟩
   simp only[bC,Qc9,Qj8]
  ·exfalso
   unfold aO at hp
   obtain⟨x,hx,hp⟩:=List.mem_flatMap.1 hp
   obtain⟨y,_,rfl⟩:=List.mem_map.1 hx
   simp[toA,bO]at hp
  ·obtain⟨tk',o',n',b',k',a',h1,h2⟩:=Q5f k p hp
   exact⟨tk',o',n',b',k',a',h1,by simp[obK,h2]⟩
theorem Q5f:∀l:List LTk,∀p∈objss (lsLs l),∃tk o n b k a,p.2=.cells [int o,int n,.sl 1 (b.map cI),.sl 1 (kK k),.sl 2 (a.map cAlt)]/\(p.1,nK tk o n b k a)∈obKs l
 |[],p,hp=>by simp[lsLs,objss]at hp
 |t::l,p,hp=>by
  simp only[lsLs,objss,List.mem_append]at hp
  rcases hp with hp|hp
  ·obtain⟨tk',o',n',b',k',a',h1,h2⟩:=Q9l t p hp
   exact⟨tk',o',n',b',k',a',h1,by simp[obKs,h2]⟩
  ·obtain⟨tk',o',n',b',k',a',h1,h2⟩:=Q5f l p hp
   exact⟨tk',o',n',b',k',a',h1,by simp[obKs,h2]⟩
end
mutual
theorem Q7h:∀t:LTk,∃r,(keys (obK t)).Perm (keys (objs (lsL t))++r)
 |.mk i tk o n b k a=>by
  obtain⟨r,hr⟩:=Q4o k
  refine⟨tk::r,?_⟩
  have ha:aO (a.map toA)=[]:=by
   unfold aO
   rw[List.flatMap_eq_nil_iff]
   intro x hx
   obtain⟨y,_,rfl⟩:=List.mem_map.1 hx
   rfl
  have e1:keys (objs (lsL (.mk i tk o n b k a)))=i::keys (objss (lsLs k)):=by rw[lsL,Qbz,bO,ha];simp[keys]
  have e2:keys (obK (.mk i tk o n b k a))=i::tk::keys (obKs k):=by simp[obK,keys]
  rw[e1,e2]
  exact .cons _ (.trans (.cons _ hr) List.perm_middle.symm)
theorem Q4o:∀l:List LTk,∃r,(keys (obKs l)).Perm (keys (objss (lsLs l))++r)
 |[]=>⟨[],.refl _⟩
 |t::l=>by
  obtain⟨r,hr⟩:=Q7h t
  obtain⟨s,hs⟩:=Q4o l
  refine⟨r++s,?_⟩
  simp only[obKs,lsLs,objss,Q0l]
  refine (hr.append hs).trans ?_
  rw[List.append_assoc,List.append_assoc]
  refine .append_left _ ?_
  rw[←List.append_assoc,←List.append_assoc]
  exact .append_right _ List.perm_append_comm
end
theorem Qet{t:LTk}(h:(keys (obK t)).Nodup):(keys (objs (lsL t))).Nodup:=by
 obtain⟨r,hr⟩:=Q7h t
 exact (List.nodup_append.1 (hr.nodup_iff.1 h)).1
theorem Qca{F:Nat->Prop}{w:World}{C:Ctx}{σ σ':St}(hi:Inv Γ F w C σ)(hn:σ'.n=σ.n)(h:∀i o,σ'.get i=some o->σ.get i=some o∨∃cs cs',o=.cells cs'/\σ.get i=some (.cells cs)/\WkL cs cs'):Inv Γ F w C σ':=by
 have key:∀i o,σ'.get i=some o->∃o',σ.get i=some o'/\o'.block C i=o.block C i:=fun i o ho=>by
  rcases h i o ho with h1|⟨cs,cs',rfl,h1,_⟩
  ·exact⟨o,h1,rfl⟩
  ·exact⟨_,h1,rfl⟩
 refine⟨hi.base,by rw[hn];exact hi.next,hi.glob,hi.prot,fun i o ho=>?_,fun i j o o' g h1 h2 h3 h4=>?_⟩
 ·rcases h i o ho with h1|⟨cs,cs',rfl,h1,hw⟩
  ·exact hi.obj i o h1
  ·obtain⟨hok,xs,T,o1,o2,o3,o4⟩:=hi.obj i _ h1
   exact⟨hok,xs,T,o1,o2,hw w C xs o3,o4⟩
 ·obtain⟨p,e1,e2⟩:=key i o h1
  obtain⟨q,e3,e4⟩:=key j o' h2
  exact hi.inj i j p q g e1 e3 (by rw[e2];exact h3) (by rw[e4];exact h4)
def lookO (l:List (Nat×AObj))(j:Nat):Option AObj:=(l.find? fun p=>p.1==j).map (·.2)
theorem Qgf{l:List (Nat×AObj)}(hn:(keys l).Nodup){p:Nat×AObj}(hp:p∈l):lookO l p.1=some p.2:=by
 induction l with
 |nil=>simp at hp
 |cons q l ih=>
  simp only[keys,List.map_cons,List.nodup_cons]at hn
  simp only[List.mem_cons]at hp
  unfold lookO
  rcases hp with rfl|hp
  ·simp
  ·have hne:q.1≠p.1:=fun e=>hn.1 (e▸List.mem_map_of_mem hp)
   simp only[List.find?_cons]
   rw[show (q.1==p.1)=false by simpa using hne]
   exact ih hn.2 hp
theorem Q6v{l:List (Nat×AObj)}{j:Nat}{o:AObj}(h:lookO l j=some o):(j,o)∈l:=by
 unfold lookO at h
 obtain⟨p,hp,rfl⟩:=Option.map_eq_some_iff.1 h
 have h1:=List.mem_of_find?_eq_some hp
 have h2:=List.find?_some hp
 simp at h2
 rw[←h2];exact h1
def putU (ou:Outer)(l:List (Nat×AObj)):Outer:=fun j=>match lookO l j with|some o=>some o|none=>ou j
theorem Q6s{ou:Outer}{l:List (Nat×AObj)}(hn:(keys l).Nodup):Owns (putU ou l) l:=fun p hp=>by unfold putU;rw[Qgf hn hp]
theorem Q9f{ou:Outer}{l:List (Nat×AObj)}{j:Nat}(h:j∉keys l):putU ou l j=ou j:=by
 unfold putU
 cases hl:lookO l j with
 |none=>rfl
 |some o=>exact absurd (List.mem_map_of_mem (f:=(·.1)) (Q6v hl)) h
theorem Qjd{F:Nat->Prop}{w:World}{C:Ctx}{σ:St}{t:LTk}(hi:Inv Γ F w C σ)(h:Owns σ.ou (obK t)):Inv Γ F w C { σ with ou:=putU σ.ou (objs (lsL t)) }:=by
 refine Qca hi rfl fun i o ho=>?_
 cases i with
 |l m=>exact .inl ho
 |o m=>
  have ho':putU σ.ou (objs (lsL t)) m=some o:=ho
  unfold putU at ho'
  cases hl:lookO (objs (lsL t)) m with
  |none=>rw[hl]at ho';exact .inl ho'
  |some q=>
   rw[hl]at ho'
   cases ho'
   obtain⟨tk,o1,n1,b1,k1,a1,e1,e2⟩:=Q9l t _ (Q6v hl)
   dsimp only at e1 e2
   have h2:=h _ e2
   exact .inr ⟨_,_,e1,h2,.cons (.refl _) (.cons (.refl _) (.cons (.refl _) (.cons (.gsE rfl) (.cons (.refl _) .nil))))⟩
theorem LendF.treeK{σ:St}{t:LTk}(h:Owns σ.ou (obK t))(hn:(keys (obK t)).Nodup):LendF σ (.one (.ptr (.o t.id) 0)) (.one (.box (cTr (erK t)))):=by
 intro Γ F w C v hi hr
 have:=LendF.tree (σ:={ σ with ou:=putU σ.ou (objs (lsL t)) }) (t:=lsL t) (Q6s (Qet hn)) Γ F w C v (Qjd hi h) (by rw[Qge];exact hr)
 rwa [Qcj]at this
theorem UpdL.kidK{ou ou':Outer}{i tk:Nat}{o n:Int}{b:List Int}{l r:List LTk}{t t':LTk}{a:List Alt}(h:UpdL ou (obK t) ou' (obK t'))(hid:t'.id=t.id)(ho:Owns ou (obK (.mk i tk o n b (l++t::r) a)))(hn:(keys (obK (.mk i tk o n b (l++t::r) a))).Nodup):
  UpdL ou (obK (.mk i tk o n b (l++t::r) a)) ou' (obK (.mk i tk o n b (l++t'::r) a)):=by
 have e:∀u:LTk,u.id=t.id->obK (.mk i tk o n b (l++u::r) a)=((i,nK tk o n b (l++t::r) a)::(tk,tO (l++t::r).length)::obKs l)++obK u++obKs r:=fun u hu=>by
  have hk:kK (l++u::r)=kK (l++t::r):=by simp[kK,hu]
  have hl:(l++u::r).length=(l++t::r).length:=by simp
  simp only[obK,nK,Q16,obKs,hk,hl,List.append_assoc,List.cons_append]
 rw[e t rfl]at ho hn ⊢
 rw[e t' hid]
 exact h.part ho hn
theorem Q4m{i tk:Nat}{o n:Int}{b:List Int}{l r:List LTk}{t:LTk}{a:List Alt}(hn:(keys (obK (.mk i tk o n b (l++t::r) a))).Nodup):(keys (obK t)).Nodup:=by
 have e:obK (.mk i tk o n b (l++t::r) a)=((i,nK tk o n b (l++t::r) a)::(tk,tO (l++t::r).length)::obKs l)++obK t++obKs r:=by
  simp only[obK,Q16,obKs,List.append_assoc,List.cons_append]
 rw[e,Q0l,Q0l]at hn
 exact (List.nodup_append.1 (List.nodup_append.1 hn).1).2.1
def ownK:LTk->List (Nat×AObj)
 |.mk i tk o n b k a=>[(tk,tO k.length),(i,nK tk o n b k a)]
theorem obK_mem:∀(t:LTk)(p:Nat×AObj),p∈obK t↔p∈ownK t∨p∈obKs t.kids
 |.mk i tk o n b k a,p=>by
  simp only[obK,ownK,LTk.kids,List.mem_cons,List.not_mem_nil,or_false]
  constructor
  ·rintro (h|h|h) <;> simp[h]
  ·rintro ((h|h)|h) <;> simp[h]
mutual
def gl:LTk->LTr
 |.mk i tk o n b k a=>.mk i o n (some (tk,0)) b (gls k) (a.map toA)
def gls:List LTk->List LTr
 |[]=>[]
 |t::ts=>gl t::gls ts
end
theorem gls_eq:∀l:List LTk,gls l=l.map gl
 |[]=>rfl
 |t::l=>by simp[gls,gls_eq l]
theorem aO_toA(a:List Alt):aO (a.map toA)=[]:=by
 unfold aO
 rw[List.flatMap_eq_nil_iff]
 intro x hx
 obtain⟨y,_,rfl⟩:=List.mem_map.1 hx
 rfl
mutual
theorem Qgr:∀t:LTk,keys (objs (gl t))=keys (obK t)
 |.mk i tk o n b k a=>by
  rw[gl,Qbz,aO_toA,List.append_nil]
  simp only[bO,keys,obK,List.map_cons,List.cons_append,List.nil_append,List.map_append,List.map_nil]
  have:=Qdm k
  simp only[keys]at this
  rw[this]
theorem Qdm:∀l:List LTk,keys (objss (gls l))=keys (obKs l)
 |[]=>rfl
 |t::l=>by
  have h1:=Qgr t
  have h2:=Qdm l
  simp only[keys]at h1 h2
  simp only[gls,objss,obKs,keys,List.map_append,h1,h2]
end
theorem Qb0:∀l:List LTk,keys ((l.map gl).flatMap ownO)=keys (l.flatMap ownK)
 |[]=>rfl
 |t::l=>by
  have h:=Qb0 l
  obtain⟨i,tk,o,n,b,k,a⟩:=t
  simp only[keys]at h
  simp only[List.map_cons,List.flatMap_cons,keys,List.map_append,h]
  congr 1
  simp[gl,ownO,ownK,bO,aO_toA]
structure LinkK (e:List Ex)(lts:List LTk):Prop where
 len:lts.length=e.length
 at_:∀(i:Nat) (x:Ex),e[i]?=some x->∃id tk,lts[i]?=some (.mk id tk x.op x.n x.binds (x.kids.map fun q=>lts.getD q.toNat default) x.alts)
theorem LinkK.nil:LinkK [] []:=⟨rfl,fun i x h=>by simp at h⟩
theorem LinkK.snoc{e:List Ex}{lts:List LTk}(h:LinkK e lts)(hk:Q0o e){x:Ex}(hx:∀q∈x.kids,0<=q/\q < (e.length:Int)){id tk:Nat}:
  LinkK (e++[x]) (lts++[.mk id tk x.op x.n x.binds (x.kids.map fun q=>lts.getD q.toNat default) x.alts]):=by
 have hgd:∀(q:Int),0<=q->q < (e.length:Int)->∀t,(lts++[t]).getD q.toNat default=lts.getD q.toNat default:=fun q h0 h1 t=>Q6x (by rw[h.len];omega)
 refine⟨by simp[h.len],fun i y hy=>?_⟩
 by_cases hi:i < e.length
 ·rw[List.getElem?_append_left hi]at hy
  obtain⟨id',tk',h1⟩:=h.at_ i y hy
  refine⟨id',tk',?_⟩
  rw[List.getElem?_append_left (by rw[h.len];exact hi),h1]
  congr 2
  refine List.map_congr_left fun q hq=>?_
  have:=hk i y hy q hq
  exact (hgd q this.1 (by omega) _).symm
 ·have hie:i=e.length:=by
   have:=(List.getElem?_eq_some_iff.1 hy).1
   simp at this;omega
  subst hie
  simp at hy
  subst hy
  refine⟨id,tk,?_⟩
  rw[←h.len,List.getElem?_append_right (by simp)]
  simp only[Nat.sub_self,List.getElem?_cons_zero]
  congr 2
  exact List.map_congr_left fun q hq=>(hgd q (hx q hq).1 (hx q hq).2 _).symm
section
variable {e:List Ex}{lts:List LTk}
theorem LinkK.getD(h:LinkK e lts){i:Nat}{t:LTk}(ht:lts[i]?=some t):lts.getD i default=t:=by rw[List.getD_eq_getElem?_getD,ht];rfl
theorem LinkK.gl(h:LinkK e lts)(hk:Q0o e):LinkL e (lts.map gl) fun _ _=>True:=by
 refine⟨by simp[h.len],fun i x hx=>?_⟩
 obtain⟨id,tk,h1⟩:=h.at_ i x hx
 refine⟨id,some (tk,0),x.alts.map toA,?_,?_,trivial,fun _ _=>trivial⟩
 ·rw[List.getElem?_map,h1]
  simp only[Option.map_some,Go.Proofs.YtmdkenkhaicbeaaGreatDoor.gl,gls_eq,List.map_map]
  congr 2
  refine List.map_congr_left fun q hq=>?_
  have hq':=hk i x hx q hq
  have hi:=(List.getElem?_eq_some_iff.1 hx).1
  obtain⟨t',ht'⟩:=Q00 (l:=lts) (i:=q.toNat) (by rw[h.len];omega)
  simp only[Function.comp,h.getD ht',List.getD_eq_getElem?_getD,List.getElem?_map,ht',Option.map_some,Option.getD_some]
 ·rw[List.map_map]
  exact List.map_id'' (fun x=>by cases x;rfl) _
theorem LinkK.er(h:LinkK e lts)(hk:Q0o e):∀(n i:Nat)(t:LTk),i < n->lts[i]?=some t->erK t=Q0u e i
 |0,i,t,hi,_=>by omega
 |n+1,i,t,hi,ht=>by
  have hil:i < e.length:=by rw[←h.len];exact (List.getElem?_eq_some_iff.1 ht).1
  obtain⟨x,hx⟩:=Q00 hil
  obtain⟨id,tk,h1⟩:=h.at_ i x hx
  rw[ht]at h1
  cases h1
  rw[Q1x hk hx]
  simp only[erK,Q2p,List.map_map]
  congr 1
  refine List.map_congr_left fun q hq=>?_
  have hq':=hk i x hx q hq
  obtain⟨t',ht'⟩:=Q00 (l:=lts) (i:=q.toNat) (by rw[h.len];omega)
  simp only[Function.comp,h.getD ht']
  exact h.er hk n q.toNat t' (by omega) ht'
theorem LinkK.own(h:LinkK e lts)(hk:Q0o e):∀(n i:Nat)(t:LTk),i < n->lts[i]?=some t->∀p∈obK t,p∈lts.flatMap ownK
 |0,i,t,hi,_=>by omega
 |n+1,i,t,hi,ht=>fun p hp=>by
  have hil:i < e.length:=by rw[←h.len];exact (List.getElem?_eq_some_iff.1 ht).1
  obtain⟨x,hx⟩:=Q00 hil
  obtain⟨id,tk,h1⟩:=h.at_ i x hx
  rw[ht]at h1
  rcases (obK_mem t p).1 hp with hp|hp
  ·exact List.mem_flatMap.2 ⟨t,List.mem_of_getElem? ht,hp⟩
  ·cases h1
   simp only[LTk.kids,Q9k]at hp
   obtain⟨u,hu,hpu⟩:=List.mem_flatMap.1 hp
   obtain⟨q,hq,rfl⟩:=List.mem_map.1 hu
   have hq':=hk i x hx q hq
   obtain⟨t',ht'⟩:=Q00 (l:=lts) (i:=q.toNat) (by rw[h.len];omega)
   rw[h.getD ht']at hpu
   exact h.own hk n q.toNat t' (by omega) ht' p hpu
theorem LinkK.nodup(h:LinkK e lts)(ht:IsTree e)(hn:(keys (lts.flatMap ownK)).Nodup){t:LTk}(hr:lts[e.length - 1]?=some t):(keys (obK t)).Nodup:=by
 rw[←Qgr]
 refine (h.gl ht.k).nodup ht (by rw[Qb0];exact hn) ?_
 rw[List.getElem?_map,hr];rfl
end
theorem NewO.two{ou:Outer}{k:Nat}{v w:AObj}(hk:∀m,k<=m->ou m=none)(hou:OuOk ou)(hv:v.ids isO)(hw:w.ids isO):NewO ou (ouAdd ou k [w,v]) [(k+1,v),(k,w)]:=by
 refine⟨fun p hp=>?_,fun j hj=>?_,fun m hm=>?_,Q2f hou fun q hq=>?_,by simp[keys]⟩
 ·simp only[List.mem_cons,List.not_mem_nil,or_false]at hp
  rcases hp with rfl|rfl
  ·exact Q0e 1
  ·exact Q0e 0
 ·simp[keys]at hj
  rcases hj with rfl|rfl <;> exact hk _ (by omega)
 ·simp[keys]at hm
  rcases Nat.lt_or_ge m k with h1|h1
  ·exact Q0f h1
  ·obtain⟨p,rfl⟩:∃p,m=k+p:=⟨m - k,by omega⟩
   rw[Q0e,hk _ h1]
   match p,hm with
   |0,hm=>simp at hm
   |1,hm=>simp at hm
   |p+2,hm=>simp
 ·simp only[List.mem_cons,List.not_mem_nil,or_false]at hq
  rcases hq with rfl|rfl
  ·exact hw
  ·exact hv
def Q1p (ts:List LTk)(n:Nat):List AC:=ts.map (fun t=>.ptr (.o t.id) 0)++List.replicate (n - ts.length) (.lit (.pointer none))
theorem Qev(n:Nat):Q1p [] n=List.replicate n (.lit (.pointer none)):=by simp[Q1p]
theorem Qew{ts:List LTk}{n:Nat}(h:ts.length<=n):(Q1p ts n).length=n:=by simp[Q1p];omega
theorem Q62{ts:List LTk}{n k:Nat}{t:LTk}(h:ts[k]?=some t):(Q1p ts n)[k]?=some (.ptr (.o t.id) 0):=by
 have hk:=(List.getElem?_eq_some_iff.1 h).1
 unfold Q1p
 rw[List.getElem?_append_left (by simpa using hk)]
 simp[h]
theorem Qeu{ts:List LTk}{n:Nat}(h:ts.length < n)(t:LTk):(Q1p ts n).set ts.length (.ptr (.o t.id) 0)=Q1p (ts++[t]) n:=by
 unfold Q1p
 rw[List.set_append_right _ _ (by simp)]
 simp only[List.length_map,Nat.sub_self,List.map_append,List.map_cons,List.map_nil,List.append_assoc,List.length_append,List.length_singleton]
 congr 1
 rw[show n - ts.length=(n - (ts.length+1))+1 by omega,List.replicate_succ]
 rfl
theorem Q8r(p:Abs.Id->Prop)(hp:∀k,p (.o k))(ts:List LTk)(n:Nat):idsL p (Q1p ts n):=by
 refine Q5j ?_ (Qdq p _ _)
 induction ts with
 |nil=>trivial
 |cons t ts ih=>exact⟨hp _,ih⟩
@[simp] theorem ids_nodesK_l (k:Nat) (ts:List LTk) (n:Nat):idsL (inL k) (Q1p ts n):=Q8r _ (fun _=>trivial) ts n
@[simp] theorem Qb2 (ts:List LTk) (n:Nat):idsL isO (Q1p ts n):=Q8r _ (fun _=>trivial) ts n
theorem Q9s(l:List LTk)(t:LTk):kK (l++[t])=kK l++[[.ptr (.o t.id) 0]]:=by simp[kK]
def kidsK (ts:List LTk)(ks:List Int):List LTk:=ks.map fun k=>ts.getD k.toNat default
theorem Qf0{ts:List LTk}{ks:List Int}{i:Nat}{k:Int}(h:ks[i]?=some k):kidsK ts (ks.take (i+1))=kidsK ts (ks.take i)++[ts.getD k.toNat default]:=by
 simp[kidsK,List.take_add_one,h]
theorem Qgp(ts:List LTk)(ks:List Int):(kidsK ts ks).length=ks.length:=by simp[kidsK]
def GrowKQ (e:List Ex)(ou:Outer)(r:FV)(ou':Outer):Prop:=∃t:LTk,r=.one (.ptr (.o t.id) 0)/\erK t=grow e/\Owns ou' (obK t)/\(keys (obK t)).Nodup/\(∀k∈keys (obK t),ou k=none)/\OuOk ou'/\∀j o,ou j=some o->ou' j=some o
set_option maxHeartbeats 1000000 in
theorem Qk4(hΓ:∀g cs,(g,cs)∈Γ->idsL isO cs)(e:List Ex)(he:okE e)(hin:Q0o e)(hT:IsTree e)(ou:Outer):AFn Tryz.prog Γ 44 [.one (.sl 5 (e.map cEx))] ou (GrowKQ e ou):=by
 have hel:=he.l
 refine AFn.walk 85 tabOk Tryz.func44 rfl (by kernel_rfl) rfl rfl fun hou=>?_
 refine zA ?_
 have hb:ti68.bytes * (e.map cEx).length<=281474976710656:=by simp;show 8 * _<=_;omega
 have hb2:(e.map cEx).length<=281474976710656:=by simp;omega
 refine zS (AStep.makeArr tabOk rfl rfl rfl rfl rfl rfl rfl rfl hb hb2) ?_
 refine zA ?_
 refine ACode.loopR hΓ (α:=Nat×List LTk×Outer) (fun c=>[(16,.one (int c.1)),(15,.one (int (e.map cEx).length)),(14,.one (.sl 5 (e.map cEx))),(3,.one (.arr (.l 0) 1 0 (e.map cEx).length (e.map cEx).length)),(0,.one (.sl 5 (e.map cEx)))])
  (fun c=>⟨1,[(0,.cells (Q1p c.2.1 (e.map cEx).length))],c.2.2⟩) (fun m c=>c.1<=e.length/\(LinkK (e.take c.1) c.2.1/\NewO ou c.2.2 (c.2.1.flatMap ownK))/\m=e.length - c.1) (a0:=(0,[],ou)) (ρ:=id) ⟨by omega,⟨LinkK.nil,.nil hou⟩,rfl⟩
  (LessR.of rfl zFS (by simp) (LoSub.cons rfl (by rw[AObj.ren_pure _ _ (by simp)];show AObj.cells (List.replicate _ _)=AObj.cells (Q1p [] _);rw[Qev]) rfl (by simp) .nil) rfl rfl hou) fun m c hc=>?_
 obtain⟨j,lts,ov⟩:=c
 obtain⟨hjl,⟨hL,hN⟩,rfl⟩:=hc
 dsimp only at hjl hL hN
 have hov:=hN.ok
 refine zA ?_
 refine ACode.cond rfl (fun hb2=>?_) (fun hb2=>?_)
 ·have hlt:j < e.length:=by simpa using hb2
  obtain⟨x,hx⟩:=Q00 hlt
  have hxo:=he.x x (List.mem_of_getElem? hx)
  have hxk:=hxo.k
  have hxa:=hxo.a
  have hxin:=hin j x hx
  have hgl:lts.length=j:=by rw[hL.len];simp;omega
  refine zA ?_
  refine zS (zIA rfl rfl rfl (by omega) (Q0a hx)) ?_
  refine zA ?_
  have hcl:=Q4v (Γ:=Γ) x.binds hxo.b
  refine ACode.drawXH (va:=.one (.ptr (.l 2) 0)) (σ1:=(((St.mk 1 [(0,.cells (Q1p lts (e.map cEx).length))] ov).push (.cells (ti31.zero.map .lit))).set (.l 1) (.cells (cEx x))).push (.cells [int x.op,int x.n,.sl 1 (x.binds.map cI),.lit (.slice none 0 0),.lit (.slice none 0 0)]))
   tabOk 9 8 [(6,.one (.sl 1 (x.binds.map cI)))] follows (by kernel_rfl) rfl rfl rfl rfl rfl rfl rfl (HStep.auto tabOk rfl) ?_ ?_ ?_
  ·exact .call hΓ hcl hov (by simp) rfl rfl rfl rfl rfl rfl .nil
  ·exact .call hΓ hcl hov (by simp) rfl rfl rfl rfl rfl rfl .nil
  refine zA ?_
  refine ACode.grow 2 3 68 1 rfl rfl ?_
  refine ACode.loopR hΓ (α:=Nat) (fun i=>[(33,.one (int i)),(32,.one (int (x.kids.map cI).length)),(31,.one (.sl 1 (x.kids.map cI))),(6,.one (.ptr (.l 2) 0)),(5,.one (.ptr (.l 1) 0)),(4,.one (int j)),(16,.one (int j)),(15,.one (int (e.map cEx).length)),(14,.one (.sl 5 (e.map cEx))),(3,.one (.arr (.l 0) 1 0 (e.map cEx).length (e.map cEx).length)),(0,.one (.sl 5 (e.map cEx)))])
   (fun i=>⟨4,[(3,.tok 68 1 i),(2,.cells [int x.op,int x.n,.sl 1 (x.binds.map cI),.gs 1 (kK (kidsK lts (x.kids.take i))) (.l 3),.lit (.slice none 0 0)]),(1,.cells (cEx x)),(0,.cells (Q1p lts (e.map cEx).length))],ov⟩)
   (fun m i=>i<=x.kids.length/\m=x.kids.length - i) (a0:=0) (ρ:=id) ⟨by omega,rfl⟩ (LessR.of rfl zFS (by simp) ?_ rfl rfl hov) fun m i hi=>?_
  ·repeat' first|exact LoSub.nil|refine zlc ?_|refine zld ?_ ?_|rfl
   all_goals (simp[AObj.ren,renL,AC.ren,kidsK];exact⟨rfl,rfl⟩)
  obtain⟨hil,rfl⟩:=hi
  refine zA ?_
  refine ACode.cond rfl (fun hb3=>?_) (fun hb3=>?_)
  ·have hlt2:i < x.kids.length:=by simpa using hb3
   obtain⟨k,hk⟩:=Q00 hlt2
   have hkb:=hxin k (List.mem_of_getElem? hk)
   obtain⟨k',rfl⟩:∃k':Nat,k=k':=⟨k.toNat,by omega⟩
   obtain⟨tk,htk⟩:=Q00 (l:=lts) (i:=k') (by omega)
   have htd:lts.getD (k':Int).toNat default=tk:=by rw[Int.toNat_natCast,List.getD_eq_getElem?_getD,htk];rfl
   have hks:=Qf0 (ts:=lts) hk
   rw[htd]at hks
   have hkl:(kK (kidsK lts (x.kids.take i))).length=i:=by simp[kK,kidsK];omega
   refine zA ?_
   refine zS (zIA rfl rfl rfl (by omega) (Q0a hk)) ?_
   refine zA ?_
   refine ACode.drawXH (va:=.one (.gs 1 (kK (kidsK lts (x.kids.take i))++[[AC.ptr (.o tk.id) 0]]) (.l 4))) (σ1:=((St.mk 4 [(3,.tok 68 1 i),(2,.cells [int x.op,int x.n,.sl 1 (x.binds.map cI),.gs 1 (kK (kidsK lts (x.kids.take i))) (.l 3),.lit (.slice none 0 0)]),(1,.cells (cEx x)),(0,.cells (Q1p lts (e.map cEx).length))] ov).set (.l 3) .dead).push (.tok 68 1 (kK (kidsK lts (x.kids.take i))++[[AC.ptr (.o tk.id) 0]]).length))
    tabOk 11 10 [(7,.one (.ptr (.l 0) k')),(8,.one (.ptr (.o tk.id) 0))] follows (by kernel_rfl) rfl rfl rfl rfl rfl rfl rfl ?_ ?_ ?_ ?_
   ·refine HStep.plain rfl (AStep.append (s:=1) (es:=kK (kidsK lts (x.kids.take i))) (news:=[[AC.ptr (.o tk.id) 0]]) (ti:=ti72) (σ:=⟨4,[(3,.tok 68 1 i),(2,.cells [int x.op,int x.n,.sl 1 (x.binds.map cI),.gs 1 (kK (kidsK lts (x.kids.take i))) (.l 3),.lit (.slice none 0 0)]),(1,.cells (cEx x)),(0,.cells (Q1p lts (e.map cEx).length))],ov⟩) tabOk rfl rfl rfl rfl rfl rfl (Base.gs' _ 68 1 (kK (kidsK lts (x.kids.take i))) (.l 3) rfl hkl.symm) (.sl _ _) rfl ?_ ?_)
    ·rw[hkl];show (i+1) * 8<=_;omega
    ·rw[hkl];show i+1<=_;omega
   ·refine .step rfl (zHP (idxI tabOk rfl rfl rfl rfl rfl rfl rfl (by simp;omega))) ?_
    exact .step rfl (zHP (zLD rfl rfl rfl (Q62 htk))) .nil
   ·refine .step rfl (zHP (idxI tabOk rfl rfl rfl rfl rfl rfl rfl (by simp;omega))) ?_
    exact .step rfl (zHP (zLD rfl rfl rfl (Q62 htk))) .nil
   refine zM ?_
   refine cInv ⟨x.kids.length - (i+1),i+1,fun k=>if k=3 then 4 else k,by omega,⟨by omega,rfl⟩,LessR.of rfl zFS (by simp) ?_ rfl rfl hov⟩
   repeat' first|exact LoSub.nil|refine zlc ?_|refine zld ?_ ?_|rfl
   ·simp only[AObj.ren,List.length_append,hkl];rfl
   ·rw[hks,Q9s];simp only[AObj.ren,renL,AC.ren,Q46];rw[←Q9s,ren_kK];rfl
  have hlt2:i=x.kids.length:=by simp at hb3;omega
  subst hlt2
  rw[List.take_length]
  refine zA ?_
  refine ACode.grow 2 4 51 2 rfl rfl ?_
  refine ACode.loopR hΓ (α:=Nat) (fun i=>[(54,.one (int i)),(53,.one (int (x.alts.map cAlt).length)),(52,.one (.sl 2 (x.alts.map cAlt))),(6,.one (.ptr (.l 2) 0)),(4,.one (int j)),(16,.one (int j)),(15,.one (int (e.map cEx).length)),(14,.one (.sl 5 (e.map cEx))),(3,.one (.arr (.l 0) 1 0 (e.map cEx).length (e.map cEx).length)),(0,.one (.sl 5 (e.map cEx)))])
   (fun i=>⟨5,[(4,.tok 51 2 i),(3,.tok 68 1 x.kids.length),(2,.cells [int x.op,int x.n,.sl 1 (x.binds.map cI),.gs 1 (kK (kidsK lts x.kids)) (.l 3),.gs 2 ((x.alts.take i).map cAlt) (.l 4)]),(0,.cells (Q1p lts (e.map cEx).length))],ov⟩)
   (fun m i=>i<=x.alts.length/\m=x.alts.length - i) (a0:=0) (ρ:=id) ⟨by omega,rfl⟩ (LessR.of rfl zFS (by simp) ?_ rfl rfl hov) fun m i hi=>?_
  ·repeat' first|exact LoSub.nil|refine zlc ?_|refine zld ?_ ?_|rfl
   all_goals (simp[AObj.ren,renL,AC.ren];exact⟨rfl,rfl⟩)
  obtain⟨hil,rfl⟩:=hi
  refine zA ?_
  refine ACode.cond rfl (fun hb3=>?_) (fun hb3=>?_)
  ·have hlt2:i < x.alts.length:=by simpa using hb3
   obtain⟨a,ha⟩:=Q00 hlt2
   have hal:((x.alts.take i).map cAlt).length=i:=by simp;omega
   have hca:=Q4v (Γ:=Γ) a.binds (hxo.ab a (List.mem_of_getElem? ha))
   refine zA ?_
   refine zS (zIA rfl rfl rfl (by omega) (Q0a ha)) ?_
   refine zA ?_
   refine ACode.drawXH (va:=.one (.gs 2 ((x.alts.take i).map cAlt++[cAlt a]) (.l 6))) (σ1:=((((St.mk 5 [(4,.tok 51 2 i),(3,.tok 68 1 x.kids.length),(2,.cells [int x.op,int x.n,.sl 1 (x.binds.map cI),.gs 1 (kK (kidsK lts x.kids)) (.l 3),.gs 2 ((x.alts.take i).map cAlt) (.l 4)]),(0,.cells (Q1p lts (e.map cEx).length))] ov).push (.cells (ti51.zero.map .lit))).set (.l 5) (.cells (cAlt a))).set (.l 4) .dead).push (.tok 51 2 ((x.alts.take i).map cAlt++[cAlt a]).length))
    tabOk 13 12 [(9,.one (.sl 1 (a.binds.map cI)))] follows (by kernel_rfl) rfl rfl rfl rfl rfl rfl rfl ?_ ?_ ?_ ?_
   ·refine HStep.plain rfl (AStep.append (s:=2) (es:=(x.alts.take i).map cAlt) (news:=[cAlt a]) (ti:=ti29) (σ:=(((St.mk 5 [(4,.tok 51 2 i),(3,.tok 68 1 x.kids.length),(2,.cells [int x.op,int x.n,.sl 1 (x.binds.map cI),.gs 1 (kK (kidsK lts x.kids)) (.l 3),.gs 2 ((x.alts.take i).map cAlt) (.l 4)]),(0,.cells (Q1p lts (e.map cEx).length))] ov).push (.cells (ti51.zero.map .lit))).set (.l 5) (.cells (cAlt a)))) tabOk rfl rfl rfl rfl rfl rfl (Base.gs' _ 51 2 ((x.alts.take i).map cAlt) (.l 4) rfl hal.symm) (.sl _ _) rfl ?_ ?_)
    ·rw[hal];show (i+1) * 32<=_;omega
    ·rw[hal];show i+1<=_;omega
   ·exact .call hΓ hca hov (by simp) rfl rfl rfl rfl rfl rfl .nil
   ·exact .call hΓ hca hov (by simp) rfl rfl rfl rfl rfl rfl .nil
   refine zM ?_
   refine cInv ⟨x.alts.length - (i+1),i+1,fun k=>if k=4 then 6 else k,by omega,⟨by omega,rfl⟩,LessR.of rfl zFS (by simp) ?_ rfl rfl hov⟩
   repeat' first|exact LoSub.nil|refine zlc ?_|refine zld ?_ ?_|rfl
   ·simp only[AObj.ren,List.length_append,hal];rfl
   ·rw[Q0n ha];simp only[AObj.ren,renL,AC.ren,Q46,ren_kK,Q47];rw[List.map_append];rfl
  have hlt2:i=x.alts.length:=by simp at hb3;omega
  subst hlt2
  rw[List.take_length]
  refine zA ?_
  refine zS (idxI tabOk rfl rfl rfl rfl rfl rfl rfl (by simp;omega)) ?_
  have hgs:∀(w:World) (C:Ctx) (xs:List Value),RV w C [int x.op,int x.n,.sl 1 (x.binds.map cI),.gs 1 (kK (kidsK lts x.kids)) (.l 3),.gs 2 (x.alts.map cAlt) (.l 4)] xs->RV w C [int x.op,int x.n,.sl 1 (x.binds.map cI),.gs 1 (kK (kidsK lts x.kids)) (.l 3),.sl 2 (x.alts.map cAlt)] xs:=fun w C xs h=>(show WkL _ _ from .cons (.refl _) (.cons (.refl _) (.cons (.refl _) (.cons (.refl _) (.cons (.gsE rfl) .nil))))) w C xs h
  refine AOps.wkObj (.l 2) rfl hgs ?_
  have hθ:∀(k:Nat) (i:Abs.Id),isO i->toOs [2,3] k i=i:=fun k i hi=>by cases i with|l q=>exact hi.elim|o q=>rfl
  have hsub:∀k,AObj.sub (toOs [2,3] k) (.cells [int x.op,int x.n,.sl 1 (x.binds.map cI),.gs 1 (kK (kidsK lts x.kids)) (.l 3),.sl 2 (x.alts.map cAlt)])=nK (k+1) x.op x.n x.binds (kidsK lts x.kids) x.alts:=fun k=>by
   have h1:=AC.sub_f (hθ k) (.sl 1 (x.binds.map cI)) (by simp)
   have h2:=AC.sub_f (hθ k) (.sl 1 (kK (kidsK lts x.kids))) (by simp)
   have h3:=AC.sub_f (hθ k) (.sl 2 (x.alts.map cAlt)) (by simp)
   simp only[AC.sub,AC.sl.injEq,true_and]at h1 h2 h3
   simp only[nK,AObj.sub,subL,AC.sub,h1,h2,h3]
   rfl
  refine AOps.cedes [2,3] rfl (by decide) hov fun k hk=>⟨[(77,.one (.ptr (.l 0) j)),(76,.one (.ptr (.o k) 0)),(16,.one (int j)),(15,.one (int (e.map cEx).length)),(14,.one (.sl 5 (e.map cEx))),(3,.one (.arr (.l 0) 1 0 (e.map cEx).length (e.map cEx).length)),(0,.one (.sl 5 (e.map cEx)))],
   [(0,.cells (Q1p lts (e.map cEx).length))],[nK (k+1) x.op x.n x.binds (kidsK lts x.kids) x.alts,tO x.kids.length],?_,?_,?_,?_⟩
  ·exact .cons rfl rfl (.cons rfl rfl (.cons rfl rfl (.cons rfl rfl (.cons rfl (FV.sub_f (hθ k) _ (by simp)) (.cons rfl rfl (.cons rfl (FV.sub_f (hθ k) _ (by simp)) .nil))))))
  ·exact .cons rfl rfl (AObj.sub_f (hθ k) _ (Qb2 _ _)) .nil
  ·exact .cons rfl (hsub k) (.cons rfl rfl .nil)
  have hkl2:(kidsK lts x.kids).length=x.kids.length:=Qgp _ _
  have hN1:=NewO.two (v:=tO x.kids.length) (w:=nK (k+1) x.op x.n x.binds (kidsK lts x.kids) x.alts) hk hov trivial (Qb3 _ _ _ _ _ _)
  have hN2:=hN.trans hN1
  obtain⟨t,ht⟩:∃t:LTk,t=.mk k (k+1) x.op x.n x.binds (kidsK lts x.kids) x.alts:=⟨_,rfl⟩
  have hto:lts.flatMap ownK++[(k+1,tO x.kids.length),(k,nK (k+1) x.op x.n x.binds (kidsK lts x.kids) x.alts)]=(lts++[t]).flatMap ownK:=by
   rw[List.flatMap_append,ht]
   simp[ownK,hkl2]
  rw[hto]at hN2
  have hL2:=hL.snoc (Q8m (by rw[List.take_append_drop];exact hin)) (x:=x) (fun q hq=>by have:=hxin q hq;simp;omega) (id:=k) (tk:=k+1)
  rw[←Q0n hx,show LTk.mk k (k+1) x.op x.n x.binds (x.kids.map fun q=>lts.getD q.toNat default) x.alts=t by rw[ht];rfl]at hL2
  refine AOps.storeOwn tabOk rfl rfl rfl rfl rfl rfl rfl rfl (by rw[Qew (by simp[hgl];omega)];simp;omega) ?_
  have hst:=Qeu (ts:=lts) (n:=(e.map cEx).length) (by simp[hgl];omega) t
  rw[hgl,show t.id=k by rw[ht];rfl]at hst
  rw[hst]
  refine zM ?_
  exact cInv ⟨e.length - (j+1),(j+1,lts++[t],_),id,by omega,⟨by omega,⟨hL2,hN2⟩,rfl⟩,LessR.of rfl zFS (by simp) zLO rfl rfl hN2.ok⟩
 ·have hlt:j=e.length:=by simp at hb2;omega
  subst hlt
  rw[List.take_length]at hL
  obtain⟨N,hNe⟩:∃N,e.length=N+1:=⟨e.length - 1,by have:=List.length_pos_iff.2 hT.ne;omega⟩
  obtain⟨t,ht⟩:=Q00 (l:=lts) (i:=N) (by rw[hL.len];omega)
  have hnt:e.length - 1=N:=by omega
  refine zM ?_
  refine AOps.wk 82 rfl (y:=.one (int (N:Nat))) (.ofEq (by congr 3;simp;omega)) ?_
  refine zS (idxI tabOk rfl rfl rfl rfl rfl rfl rfl (by simp;omega)) ?_
  refine zS (zLD rfl rfl rfl (Q62 ht)) ?_
  refine zA ?_
  have hown:=hL.own hin _ N t (Nat.lt_succ_self _) ht
  refine AFn.fin' rfl (WkF.ofEq rfl) (by simp[AC.ids]) hov ⟨t,rfl,?_,?_,?_,?_,hov,?_⟩
  ·rw[hL.er hin _ N t (Nat.lt_succ_self _) ht]
   unfold grow Q0u;rw[hnt]
  ·exact fun p hp=>hN.own p (hown p hp)
  ·exact hL.nodup hT hN.nd (by rw[hnt];exact ht)
  ·intro k hk
   obtain⟨p,hp,rfl⟩:=List.mem_map.1 hk
   exact hN.new p.1 (List.mem_map_of_mem (hown p hp))
  ·intro m o hm
   show ov m=some o
   rw[hN.old m fun hmk=>by have:=hN.new m hmk;rw[hm]at this;cases this]
   exact hm
def isCl (ids:List Int)(o:Int)(k:List Tr):Bool:=o==3&&((k.getD 0 default).op==0&&ids.contains (k.getD 0 default).n)
-- All uses are calls with the right number of arguments.
mutual
def knT (ids:List Int)(ar:List Nat):Tr->Bool
 |.mk o n b k a=>if isCl ids o k=true then (if (ar.getD (idxOf ((k.getD 0 default).n==·) ids).toNat 0:Int)≠(k.length:Int) - 1 then false else knTail ids ar k)else if o=0/\ids.contains n=true then false else knTs ids ar k
def knTail (ids:List Int)(ar:List Nat):List Tr->Bool
 |[]=>true
 |_::l=>knTs ids ar l
def knTs (ids:List Int)(ar:List Nat):List Tr->Bool
 |[]=>true
 |t::l=>knT ids ar t&&knTs ids ar l
end
theorem Q65(ids:List Int)(ar:List Nat):∀l:List Tr,knTs ids ar l=!(l.any fun t=>!knT ids ar t)
 |[]=>rfl
 |t::l=>by simp[knTs,Q65 ids ar l]
def arL (fns:List Tr):List Nat:=fns.map fun f=>f.binds.length
theorem Qdo{α:Type}{p:α->Bool}:∀{xs:List α},xs.any p=true->0<=idxOf p xs/\idxOf p xs < xs.length:=by
 intro xs h
 obtain⟨x,hx,hp⟩:=List.any_eq_true.1 h
 by_cases hno:∃j a,xs[j]?=some a/\p a=true/\∀y∈xs.take j,p y=false
 ·obtain⟨j,a,h1,h2,h3⟩:=hno
  rw[Q4p h3 h1 h2]
  have:=(List.getElem?_eq_some_iff.1 h1).1
  omega
 ·exfalso
  have key:∀j,j<=xs.length->∀y∈xs.take j,p y=false:=by
   intro j
   induction j with
   |zero=>simp
   |succ j ih=>
    intro hj y hy
    obtain⟨a,ha⟩:=Q00 (l:=xs) (i:=j) (by omega)
    rw[Q0n ha]at hy
    rcases List.mem_append.1 hy with hy|hy
    ·exact ih (by omega) y hy
    ·simp at hy
     subst hy
     cases hc:p y with
     |false=>rfl
     |true=>exact absurd ⟨j,y,ha,hc,ih (by omega)⟩ hno
  have:=key xs.length (Nat.le_refl _) x (by rw[List.take_length];exact hx)
  rw[hp]at this;cases this
variable {Γ:List (Nat×List AC)}
theorem Qk0(hΓ:∀g cs,(g,cs)∈Γ->idsL isO cs)(gf:Nat)(caps:List AC)(hcap:idsL isO caps)(p:Tr->Bool)(xs:List Tr)(hx:xs.length<=1048576)(hf:∀a∈xs,APure Tryz.prog Γ gf (.one (.box (cTr a))::caps.map .one) (.one (.lit (.bool (p a))))):
  APure Tryz.prog Γ 130 [.one (.sl 1 (Q05 xs)),.one (.fn (.func gf) [] caps)] (.one (int (idxOf p xs))):=by
 have hel:(Q05 xs).length=xs.length:=by rw[Q0q];simp
 intro ou
 refine AFn.walk 19 tabOk Tryz.func130 rfl (by kernel_rfl) rfl rfl fun hou=>?_
 refine zA ?_
 refine ACode.loopR hΓ (α:=Nat) (fun j=>[(8,.one (int j)),(7,.one (int (Q05 xs).length)),(1,.one (.fn (.func gf) [] caps)),(0,.one (.sl 1 (Q05 xs)))])
  (fun j=>⟨0,[],ou⟩) (fun m j=>j<=xs.length/\(∀x∈xs.take j,p x=false)/\m=xs.length - j) (a0:=0) (ρ:=id) ⟨by omega,by simp,rfl⟩ (LessR.of rfl ?_ ?_ zLO rfl rfl hou) fun m j hj=>?_
 ·refine .cons rfl (.ofEq rfl) (.cons rfl (.ofEq rfl) (.consP rfl (.ofEq rfl) (by simp[hcap]) (.consP rfl (.ofEq rfl) (by simp) .nil)))
 ·simp[Q0t Q52 caps hcap]
 obtain⟨hjl,hno,rfl⟩:=hj
 refine zA ?_
 refine ACode.cond rfl (fun hb2=>?_) (fun hb2=>?_)
 ·have hlt:j < xs.length:=by simp[hel]at hb2;omega
  obtain⟨a,ha⟩:=Q00 hlt
  have hca:=hf a (List.mem_of_getElem? ha)
  refine zA ?_
  refine zS (zIA rfl rfl rfl (by omega) (Q0s ha)) ?_
  refine zA ?_
  refine AOps.callC hΓ hca rfl rfl rfl rfl rfl rfl rfl hou (by simp[Q7l hcap]) ?_
  refine zA ?_
  refine ACode.cond rfl (fun hb3=>?_) (fun hb3=>?_)
  ·refine zA ?_
   refine APure.fin rfl (WkF.ofEq ?_) (by simp) hou rfl
   rw[Q4p hno ha hb3]
  ·refine zA ?_
   refine zS (AStep.arith rfl rfl rfl (.inl ⟨rfl,rfl⟩) zI) ?_
   refine zA ?_
   refine cInv ⟨xs.length - (j+1),j+1,id,by omega,⟨by omega,Q13 hno ha hb3,rfl⟩,LessR.of rfl ?_ ?_ zLO rfl rfl hou⟩
   ·refine .cons rfl (.ofEq rfl) (.cons rfl (.ofEq rfl) (.consP rfl (.ofEq rfl) (by simp[hcap]) (.consP rfl (.ofEq rfl) (by simp) .nil)))
   ·simp[Q0t Q52 caps hcap]
 ·have hlt:j=xs.length:=by simp[hel]at hb2;omega
  subst hlt
  rw[List.take_length]at hno
  refine zA ?_
  refine APure.fin rfl (WkF.ofEq ?_) (by simp) hou rfl
  rw[Q3h hno]
theorem Q5u(hΓ:∀g cs,(g,cs)∈Γ->idsL isO cs)(gf:Nat)(caps:List AC)(hcap:idsL isO caps)(p:Tr->Bool)(xs:List Tr)(hx:xs.length<=1048576)(hf:∀a∈xs,APure Tryz.prog Γ gf (.one (.box (cTr a))::caps.map .one) (.one (.lit (.bool (p a))))):
  APure Tryz.prog Γ 99 [.one (.sl 1 (Q05 xs)),.one (.fn (.func gf) [] caps)] (.one (.lit (.bool (xs.any p)))):=by
 intro ou
 refine AFn.walk 9 tabOk Tryz.func99 rfl (by kernel_rfl) rfl rfl fun hou=>?_
 refine zA ?_
 refine AOps.callC hΓ (Qk0 hΓ gf caps hcap p xs hx hf) rfl rfl rfl rfl rfl rfl rfl hou (by simp[hcap]) ?_
 refine zA ?_
 refine APure.fin rfl (WkF.ofEq ?_) (by simp) hou rfl
 rw[←Q30]
def cG (t:Tr)(ids:List Int)(fns:List Tr)(rest:Tr):List AC:=[.box (cTr t),.sl 1 (ids.map cI),.sl 1 (Q05 fns),.box (cTr rest)]
@[simp] theorem ids_cG (p:Abs.Id->Prop) (t:Tr) (ids:List Int) (fns:List Tr) (rest:Tr):idsL p (cG t ids fns rest):=by simp[cG,idsL,AC.ids]
theorem Q9q(hΓ:∀g cs,(g,cs)∈Γ->idsL isO cs)(gt:Tr)(ids:List Int)(fns:List Tr)(rest:Tr)(hil:ids.length<=1048576)(hfl:fns.length=ids.length)(hfb:∀f∈fns,f.binds.length<=1048576):∀t:Tr,TrG t->APure Tryz.prog Γ 124 [.agg (cG gt ids fns rest),.one (.box (cTr t))] (.one (.lit (.bool (knT ids (arL fns) t))))
 |.mk o n b ks a,hG=>by
  have ih:∀t∈ks,APure Tryz.prog Γ 124 [.agg (cG gt ids fns rest),.one (.box (cTr t))] (.one (.lit (.bool (knT ids (arL fns) t)))):=fun t ht=>Q9q hΓ gt ids fns rest hil hfl hfb t (hG.kid (t:=.mk o n b ks a) ht)
  have hkl:ks.length<=1048576:=hG.kl
  have hC:∀t∈ks,APure Tryz.prog Γ 164 (.one (.box (cTr t))::[AC.box (cG gt ids fns rest)].map .one) (.one (.lit (.bool (!knT ids (arL fns) t)))):=fun t ht=>by
   intro ou
   refine AFn.walk 8 tabOk Tryz.func164 rfl (by kernel_rfl) rfl rfl fun hou=>?_
   refine zA ?_
   refine zca hΓ (ih t ht) hou ?_
   refine zA ?_
   exact APure.fin rfl (WkF.ofEq rfl) (by simp) hou rfl
  have hsn:=Q24 hG.sh
  simp only[Tr.op_mk,Tr.n_mk,Tr.binds_mk,Tr.kids_mk,Tr.alts_mk]at hsn
  intro ou
  refine AFn.walk 78 tabOk Tryz.func124 rfl (by kernel_rfl) rfl rfl fun hou=>?_
  repeat ((fail_if_success ((with_reducible refine oj ?_);refine AOps.atDst 7 rfl ?_));first|refine zO ?_)
  refine AOps.freeze1 (.l 0) 2 rfl rfl ?_
  by_cases h3:o=3
  ·subst h3
   have hne:0 < ks.length:=by have:=hsn.app;omega
   obtain⟨k0,rs,rfl⟩:∃k0 rs,ks=k0::rs:=by
    cases ks with
    |nil=>simp at hne
    |cons a l=>exact⟨a,l,rfl⟩
   obtain⟨o0,n0,b0,ks0,a0⟩:=k0
   have hg0:(Q05 (.mk o0 n0 b0 ks0 a0::rs))[(0:Int).toNat]?=some (cB (.mk o0 n0 b0 ks0 a0)):=Q0s (l:=.mk o0 n0 b0 ks0 a0::rs) rfl
   have ek:isCl ids 3 (.mk o0 n0 b0 ks0 a0::rs)=((o0==0)&&ids.contains n0):=by simp[isCl]
   have hkT:knT ids (arL fns) (.mk 3 n b (.mk o0 n0 b0 ks0 a0::rs) a)=if isCl ids 3 (.mk o0 n0 b0 ks0 a0::rs)=true then (if ((arL fns).getD (idxOf (n0==·) ids).toNat 0:Int)≠((rs.length+1:Nat):Int) - 1 then false else knTs ids (arL fns) rs)else knTs ids (arL fns) (.mk o0 n0 b0 ks0 a0::rs):=by
    simp[knT,knTail]
   have hcK:=Q5u hΓ 164 [AC.box (cG gt ids fns rest)] (by simp[AC.ids]) (fun t=>!knT ids (arL fns) t) (.mk o0 n0 b0 ks0 a0::rs) hkl hC
   have hcR:=Q5u hΓ 164 [AC.box (cG gt ids fns rest)] (by simp[AC.ids]) (fun t=>!knT ids (arL fns) t) rs (by simp at hkl;omega) fun t ht=>hC t (by simp[ht])
   have hI:=Qac hΓ ids hil n0
   repeat ((fail_if_success ((with_reducible refine oj ?_);refine AOps.atDst 17 rfl ?_));first|refine zO ?_)
   refine AOps.wk 16 rfl (y:=.one (.lit (.bool true))) (.ofEq rfl) ?_
   refine zM ?_
   refine zS (zIA rfl rfl rfl (by decide) hg0) ?_
   refine zA ?_
   refine ACode.cond rfl (fun hb=>?_) (fun hb=>?_)
   ·have h0:o0=0:=by simpa using hb
    subst h0
    refine zA ?_
    refine ACode.drawX tabOk 12 [(6,.one (.box (cB (.mk 0 n0 b0 ks0 a0)))),(11,.one (int (idxOf (n0==·) ids)))] follows (by kernel_rfl) rfl rfl rfl rfl ?_ ?_
    ·refine .step rfl (zHP (zIA rfl rfl rfl (by decide) hg0)) ?_
     exact .step rfl (zHP (AStep.callP hΓ rfl rfl rfl rfl (by simp) hou hI)) .nil
    refine zA ?_
    have hany:ids.contains n0=ids.any (n0==·):=by rw[List.contains_eq_any_beq]
    rw[hany]at ek
    obtain⟨J,hJ⟩:∃J,J=idxOf (n0==·) ids:=⟨_,rfl⟩
    rw[←hJ]at hkT ⊢
    refine ACode.cond rfl (fun hb2=>?_) (fun hb2=>?_)
    ·have hj0:0<=J:=by simpa using hb2
     have hin:ids.any (n0==·)=true:=by rw[←Q30,←hJ];simpa using hj0
     have hjl:=(Qdo hin).2
     rw[←hJ]at hjl
     rw[hin]at ek
     rw[ek]at hkT
     simp only[beq_self_eq_true,Bool.and_self,if_true]at hkT
     obtain⟨j,rfl⟩:∃j:Nat,J=j:=⟨J.toNat,by omega⟩
     obtain⟨f,hf⟩:=Q00 (l:=fns) (i:=j) (by omega)
     have hgf:(Q05 fns)[(j:Int).toNat]?=some (cB f):=Q0s hf
     have hfl2:=hfb f (List.mem_of_getElem? hf)
     have har:(arL fns).getD (j:Int).toNat 0=f.binds.length:=by simp[arL,List.getD_eq_getElem?_getD,hf]
     rw[har]at hkT
     refine zA ?_
     have hel:(Q05 (.mk 0 n0 b0 ks0 a0::rs)).length=rs.length+1:=by rw[Q0q];simp
     simp only[List.length_cons]at hkl
     refine ACode.drawX tabOk 15 [(3,.one (.box (cB f))),(14,.one (int (((Q05 (.mk 0 n0 b0 ks0 a0::rs)).length:Int) - 1)))] follows (by kernel_rfl) rfl rfl rfl rfl ?_ ?_
     ·refine .step rfl (zHP (zIA rfl rfl rfl (by omega) hgf)) ?_
      exact .step rfl (zHP (AStep.arith rfl rfl rfl (.inr (.inl ⟨rfl,rfl⟩)) zI)) .nil
     refine zA ?_
     refine ACode.cond rfl (fun hb3=>?_) (fun hb3=>?_)
     ·have hne2:¬(f.binds.length:Int)=((rs.length+1:Nat):Int) - 1:=by simpa[hel]using hb3
      rw[if_pos hne2]at hkT
      rw[hkT]
      refine zA ?_
      exact APure.fin rfl (WkF.ofEq rfl) (by simp) hou rfl
     ·have heq:(f.binds.length:Int)=((rs.length+1:Nat):Int) - 1:=by simpa[hel]using hb3
      rw[if_neg (by simpa using heq)]at hkT
      rw[hkT,Q65]
      refine zA ?_
      refine zS (AStep.sliceFrom (b:=1) (es:=Q05 (.mk 0 n0 b0 ks0 a0::rs)) tabOk rfl rfl rfl rfl rfl rfl rfl (by rw[hel];omega)) ?_
      refine AOps.wk 59 rfl (y:=.one (.sl 1 (Q05 rs))) (.ofEq (by rw[Q0q,Q0q];rfl)) ?_
      refine zM ?_
      refine ACode.drawX tabOk 13 [(4,.one (.lit (.bool false)))] follows (by kernel_rfl) rfl rfl rfl rfl ?_ ?_
      ·exact .step rfl (HStep.litB tabOk rfl (by simp)) .nil
      refine zM ?_
      refine AOps.callC hΓ hcR rfl rfl rfl rfl rfl rfl rfl hou (by simp[idsF,FV.ids,AC.ids,idsL]) ?_
      refine zA ?_
      exact APure.fin rfl (WkF.ofEq rfl) (by simp) hou rfl
    ·have hJn:J < 0:=by simpa using hb2
     have hin:ids.any (n0==·)=false:=by
      rw[←Q30,←hJ];simpa using hJn
     rw[hin]at ek
     rw[ek]at hkT
     simp only[Bool.and_false,Bool.false_eq_true,if_false]at hkT
     rw[hkT,Q65]
     refine zM ?_
     refine ACode.drawX tabOk 13 [(4,.one (.lit (.bool false)))] follows (by kernel_rfl) rfl rfl rfl rfl ?_ ?_
     ·exact .step rfl (HStep.litB tabOk rfl (by simp)) .nil
     refine zM ?_
     refine AOps.callC hΓ hcK rfl rfl rfl rfl rfl rfl rfl hou (by simp[idsF,FV.ids,AC.ids,idsL]) ?_
     refine zA ?_
     exact APure.fin rfl (WkF.ofEq rfl) (by simp) hou rfl
   ·have h0:o0≠0:=by simpa using hb
    have:(o0==0)=false:=by simpa using h0
    rw[this,Bool.false_and]at ek
    rw[ek]at hkT
    simp only[Bool.false_eq_true,if_false]at hkT
    rw[hkT,Q65]
    refine zM ?_
    refine ACode.drawX tabOk 13 [(4,.one (.lit (.bool false)))] follows (by kernel_rfl) rfl rfl rfl rfl ?_ ?_
    ·exact .step rfl (HStep.litB tabOk rfl (by simp)) .nil
    refine zM ?_
    refine AOps.callC hΓ hcK rfl rfl rfl rfl rfl rfl rfl hou (by simp[idsF,FV.ids,AC.ids,idsL]) ?_
    refine zA ?_
    exact APure.fin rfl (WkF.ofEq rfl) (by simp) hou rfl
  ·have hcK:=Q5u hΓ 164 [AC.box (cG gt ids fns rest)] (by simp[AC.ids]) (fun t=>!knT ids (arL fns) t) ks hkl hC
   have hkT:knT ids (arL fns) (.mk o n b ks a)=if o=0/\ids.contains n=true then false else knTs ids (arL fns) ks:=by
    have:isCl ids o ks=false:=by simp[isCl,h3]
    simp[knT,this]
   rw[hkT]
   repeat ((fail_if_success ((with_reducible refine oj ?_);refine AOps.atDst 17 rfl ?_));first|refine zO ?_)
   refine AOps.wk 16 rfl (y:=.one (.lit (.bool false))) (.ofEq (by simp[h3])) ?_
   refine zM ?_
   by_cases h0:o=0
   ·subst h0
    refine ACode.drawX tabOk 13 [(4,.one (.lit (.bool true))),(12,.one (.lit (.bool (ids.contains n))))] follows (by kernel_rfl) rfl rfl rfl rfl ?_ ?_
    ·refine .step rfl (HStep.litB tabOk rfl (by simp)) ?_
     exact .step rfl (HStep.guarded rfl rfl rfl (AStep.callP hΓ rfl rfl rfl rfl (by simp) hou (Q1z hΓ ids hil n))) .nil
    refine zA ?_
    refine ACode.cond rfl (fun hb=>?_) (fun hb=>?_)
    ·rw[if_pos ⟨rfl,by simpa using hb⟩]
     refine zA ?_
     exact APure.fin rfl (WkF.ofEq rfl) (by simp) hou rfl
    ·have hcn:¬ids.contains n=true:=by
      have hb':ids.contains n=false:=by simpa using hb
      rw[hb'];simp
     rw[if_neg (fun h=>hcn h.2),Q65]
     refine zA ?_
     refine AOps.callC hΓ hcK rfl rfl rfl rfl rfl rfl rfl hou (by simp[idsF,FV.ids,AC.ids,idsL]) ?_
     refine zA ?_
     exact APure.fin rfl (WkF.ofEq rfl) (by simp) hou rfl
   ·rw[if_neg (fun h=>h0 h.1),Q65]
    refine ACode.drawX tabOk 13 [(4,.one (.lit (.bool false)))] follows (by kernel_rfl) rfl rfl rfl rfl ?_ ?_
    ·exact .step rfl (HStep.litB tabOk rfl (by simp[h0])) .nil
    refine zM ?_
    refine AOps.callC hΓ hcK rfl rfl rfl rfl rfl rfl rfl hou (by simp[idsF,FV.ids,AC.ids,idsL]) ?_
    refine zA ?_
    exact APure.fin rfl (WkF.ofEq rfl) (by simp) hou rfl
def ArrQ (l:List Int)(r:FV)(ou':Outer):Prop:=(l=[]/\r=.one (.lit (.slice none 0 0)))∨∃k cap,r=.one (.arr (.o k) 1 0 (l.map cI).length cap)/\ou' k=some (.cells (vec 1 (l.map cI) cap))
theorem Qfw{w w':World}{C C':Ctx}:∀(l:List Int)(r:List AC)(ys:List Value),RV w C ((l.map cI).flatten++r) ys->RV w' C' (l.map cI).flatten (ys.take l.length)
 |[],r,ys,_=>by simp[RV]
 |n::l,r,ys,h=>by
  simp only[List.map_cons,List.flatten_cons,cI,List.cons_append,List.nil_append,RV]at h ⊢
  obtain⟨u,us,rfl,h1,h2⟩:=h
  simp only[List.length_cons,List.take_succ_cons]
  refine⟨u,_,rfl,?_,Qfw l r us h2⟩
  simpa only [R]using h1
theorem Qgu{F:Nat->Prop}{w:World}{C:Ctx}{σ:St}(hi:Inv Γ F w C σ){b:Nat}(hb:b < w.heap.size)(hf:¬F b)(hn:∀i o,σ.get i=some o->o.block C i≠some b):Goes F (fun _=>True) w C w (C.froze b)/\Inv Γ F w (C.froze b) σ:=by
 have he:Ext w C w (C.froze b):=⟨fun _ _=>rfl,fun _ h=>.inl h,fun i _ ho=>⟨ho,rfl,rfl⟩⟩
 refine⟨⟨Stp.refl _ _,he,Nat.le_refl _,fun a ha=>ha.imp id (fun h=>by rw[h];exact hf)⟩,⟨hi.base,hi.next,fun g cs h=>(hi.glob g cs h).ext he,fun a ha=>?_,fun j p h=>?_,fun j k p q g a1 a2 a3 a4=>?_⟩⟩
 ·rcases ha with ha|ha
  ·exact hi.prot a ha
  ·rw[ha];exact hb
 ·obtain⟨b1,b2⟩:=hi.obj j p h
  refine⟨b1,b2.keep he b1 (fun g x _ hx=>hx) (fun a hbk _ ha=>?_)⟩
  rcases ha with ha|ha
  ·exact ha
  ·exact (hn j p h (by rw[←ha];exact hbk)).elim
 ·exact hi.inj j k p q g a1 a2 (by rw[←AObj.block_ext he (hi.obj j p a1).1];exact a3) (by rw[←AObj.block_ext he (hi.obj k q a2).1];exact a4)
theorem AStep.callSA{E:Env}{o:Oper}{fr:Fr}{σ:St}{f:Operand}{args:Array Operand}{tys:Array TypeId}{g:Nat}{first caps:List AC}{vs ws:List FV}{l:List Int}
  (hΓ:∀g cs,(g,cs)∈E.Γ->idsL isO cs) (hc:AFn E.P E.Γ g ws (fun _=>none) (ArrQ l)) (ho:o.op=.call { callee:=.value f,args:=args,argTypes:=tys })
  (hf:aEval E.Γ fr f=some (.one (.fn (.func g) first caps))) (hargs:Q1h E.Γ fr args.toList=some vs) (hw:Q6p σ (first.map .one++vs++caps.map .one) ws):AStep E o fr σ (.one (.sl 1 (l.map cI))) σ:=by
 intro F w C tmps hi hfr next Q hk
 have hcallee:=Q01 (a:=⟨tmps,E.ds⟩) hi hfr hf
 simp only[RF,R]at hcallee
 obtain⟨xs,ys,hfv,hx,hy⟩:=hcallee
 have hvs:=Q1n (a:=⟨tmps,E.ds⟩) hi hfr hargs
 have hall:RFs w (C.still w) ws (xs++args.toList.map (Act.eval ⟨tmps,E.ds⟩)++ys):=hw _ _ _ _ _ hi ((RFs.ones hx |>.append hvs).append (RFs.ones hy))
 have hrun:(execOp (Act.eval ⟨tmps,E.ds⟩) o).run E.P w=.ok (.enter g (xs++args.toList.map (Act.eval ⟨tmps,E.ds⟩)++ys).toArray) w:=by
  unfold execOp
  simp only[ho,resolve,Sem.run_bind,hfv,Deferred.ofValue,Sem.run_pure,Result.andThen_ok,invoke,hc.1]
  congr 2
  apply Array.ext'
  simp
 unfold Oper.wp
 rw[hrun,Oper.upon_enter]
 refine (hc.2 (fun k=>k < w.heap.size) w (C.still w) _ rfl (hi.forStill hΓ) hall).mono fun e w' ⟨v,r',ou',C',he,hgo,h0,hi',hr,hQ⟩=>?_
 subst he
 obtain⟨he,hi2⟩:=hi.grown hgo.stp.size (fun k hk=>hgo.stp.block k hk)
 have hgo1:Goes F (fun _=>True) w C w' C:=⟨hgo.stp.mono fun k hk=>hi.base k hk,he,Nat.le_refl _,NewP.refl _ _⟩
 rcases hQ with ⟨rfl,rfl⟩|⟨k,cap,rfl,hok⟩
 ·refine hk v w' C hgo1 hi2 ?_
  exact WkF.one (.nilS 1) w' C v (by simpa only [RF,R]using hr)
 ·obtain⟨hkok,zs,T,b1,b2,b3,b4⟩:=hi'.obj (.o k) _ hok
  have hsz:¬C'.blk (.o k) < w.heap.size:=b2
  have hblt:C'.blk (.o k) < w'.heap.size:=Q0b b1
  have hne:∀i q,σ.get i=some q->q.block C i≠some (C'.blk (.o k)):=fun i q hq hbk=>by
   have:=(hi.obj i q hq).2
   cases q with
   |cells cs=>
    obtain⟨_,_,c1,_⟩:=this
    simp only[AObj.block,Option.some.injEq]at hbk
    exact hsz (by rw[←hbk];exact Q0b c1)
   |map ck es=>
    obtain⟨_,c1,_⟩:=this
    simp only[AObj.block,Option.some.injEq]at hbk
    exact hsz (by rw[←hbk];exact Q0b c1)
   |iter m a b d=>
    obtain⟨c1,_⟩:=this
    simp only[AObj.block,Option.some.injEq]at hbk
    exact hsz (by rw[←hbk];exact Q0b c1)
   |sit s p=>
    obtain⟨c1,_⟩:=this
    simp only[AObj.block,Option.some.injEq]at hbk
    exact hsz (by rw[←hbk];exact Q0b c1)
   |tok e s u=>
    simp only[AObj.block]at hbk
    simp only[ObjOk]at this
    cases ht:C.tok i with
    |none=>rw[ht]at hbk;simp at hbk
    |some gc=>
     obtain⟨g',cap'⟩:=gc
     rw[ht]at hbk this
     obtain⟨_,c1,_⟩:=this
     simp only[Option.map_some,Option.some.injEq]at hbk
     exact hsz (by rw[←hbk];exact Q0b c1)
   |dead=>simp[AObj.block]at hbk
  obtain⟨g2,hi3⟩:=Qgu hi2 hblt (fun hF=>hsz (hi.base _ hF)) hne
  refine hk v w' _ (hgo1.trans g2) hi3 ?_
  simp only[RF,R,Nat.zero_mul]at hr
  refine⟨some ⟨C'.blk (.o k),0,none⟩,cap,hr.2.1,hr.2.2,.inr ⟨_,rfl,rfl,?_⟩⟩
  have hv:RV w' (C.froze (C'.blk (.o k))) (l.map cI).flatten (zs.take l.length):=by
   have:vec 1 (l.map cI) cap=(l.map cI).flatten++(vec 1 (l.map cI) cap).drop l.length:=by
    unfold vec
    have hfl:(l.map cI).flatten.length=l.length:=by
     rw[Q3r (s:=1) fun x hx=>by obtain⟨y,_,rfl⟩:=List.mem_map.1 hx;rfl]
     simp
    rw[List.drop_append_of_le_length (by omega),List.drop_eq_nil_of_le (by omega)]
    rfl
   rw[this]at b3
   exact Qfw l _ zs b3
  refine RS.ofVals 0 (fun x hx=>by obtain⟨y,_,rfl⟩:=List.mem_map.1 hx;rfl) hv fun j u hj=>⟨?_,.inr rfl⟩
  have h2:j < l.length:=by have:=(List.getElem?_eq_some_iff.1 hj).1;simp at this;omega
  rw[List.getElem?_take_of_lt h2]at hj
  rw[Nat.zero_add,cell_of_row _ _ _ _ _ _ b1]
  simpa using hj
theorem Qj6{σ:St}{k s:Nat}{es:List (List AC)}{oc:Option Nat}(hg:σ.get (.l k)=some (oaO s es oc))(hco:coO es oc)(hl:∀x∈es,x.length=s)(hi:idsS isO es):LendF σ (.one (oaC k s es oc)) (.one (.sl s es)):=by
 cases oc with
 |none=>
  have:es=[]:=hco
  subst this
  exact LendF.of (.one (.nilS s)) (by simp)
 |some cap=>exact LendF.arr hg rfl hl hi
theorem Q7p{α β:Type}{g:β->α->β}{a:β}{l:List α}{i:Nat}{x:α}(h:l[i]?=some x):(l.take (i+1)).foldl g a=g ((l.take i).foldl g a) x:=by rw[Q0n h,List.foldl_append];rfl
def nd1 (ids top:List Int)(o:List Int)(x:Int):List Int:=if o.contains x=true∨ids.contains x=true∨top.contains x=true then o else o++[x]
theorem Qc1(ids top:List Int):∀(l:List Int)(o:List Int),(l.foldl (nd1 ids top) o).length<=o.length+l.length
 |[],o=>by simp
 |x::l,o=>by
  have:=Qc1 ids top l (nd1 ids top o x)
  simp only[List.foldl_cons,List.length_cons]
  have h:(nd1 ids top o x).length<=o.length+1:=by unfold nd1;split <;> simp
  omega
def ndF (ids top:List Int)(o:List Int)(f:Tr):List Int:=(Q1k f).foldl (nd1 ids top) o
theorem Qc0(ids top:List Int):∀(l:List Tr)(o:List Int),(l.foldl (ndF ids top) o).length<=o.length+cntNs l
 |[],o=>by simp
 |f::l,o=>by
  have h:=Qc0 ids top l (ndF ids top o f)
  have h1:=Qc1 ids top (Q1k f) o
  have hF:=Q4s f
  have hcl:=Q1u f []
  simp only[List.length_nil]at hcl
  simp only[List.foldl_cons,cntNs]
  unfold ndF at h ⊢
  omega
def Q0z (ids top:List Int)(fns:List Tr):List Int:=(fns.foldl (ndF ids top) []).mergeSort fun x y=>decide (x<=y)
def nS (ids top:List Int)(fns:List Tr)(i:Nat):List Int:=(fns.take i).foldl (ndF ids top) []
def nT (ids top a l:List Int)(j:Nat):List Int:=(l.take j).foldl (nd1 ids top) a
theorem nS_len(ids top:List Int)(fns:List Tr)(i:Nat):(nS ids top fns i).length<=cntNs fns:=by
 have h1:=Qc0 ids top (fns.take i) []
 have h2:cntNs fns=cntNs (fns.take i)+cntNs (fns.drop i):=by conv=>lhs;rw[←List.take_append_drop i fns,Q1l]
 unfold nS
 simp at h1;omega
theorem nT_len(ids top a l:List Int)(j:Nat):(nT ids top a l j).length<=a.length+l.length:=by
 have h1:=Qc1 ids top (l.take j) a
 have h2:(l.take j).length<=l.length:=by simp;omega
 unfold nT;omega
theorem nS_succ{ids top:List Int}{fns:List Tr}{i:Nat}{f:Tr}(h:fns[i]?=some f):nS ids top fns (i+1)=nT ids top (nS ids top fns i) (Q1k f) (Q1k f).length:=by
 unfold nS
 rw[Q7p h]
 unfold nT ndF
 rw[List.take_length]
theorem nT_succ{ids top a l:List Int}{j:Nat}{x:Int}(h:l[j]?=some x):nT ids top a l (j+1)=nd1 ids top (nT ids top a l j) x:=by unfold nT;exact Q7p h
set_option maxHeartbeats 1000000 in
theorem Qiz(gt rest:Tr)(ids:List Int)(fns:List Tr)(top:List Int)(hf:∀f∈fns,okT f/\Q0x f<=1048576)(hc:cntNs fns<=500000)(hg:ids.length<=1048576)(htl:top.length<=1048576):
  AFn Tryz.prog Γc 126 [.agg (cG gt ids fns rest),.one (.sl 1 (top.map cI))] (fun _=>none) (ArrQ (Q0z ids top fns)):=by
 have hel:(Q05 fns).length=fns.length:=by rw[Q0q];simp
 have hfl:fns.length<=500000:=by
  have:fns.length<=cntNs fns:=by
   clear hf hc hel
   induction fns with
   |nil=>simp
   |cons f l ih=>obtain⟨o,n,b,k,a⟩:=f;simp only[cntNs,cntN,List.length_cons];omega
  omega
 refine AFn.walk 50 tabOk Tryz.func126 rfl (by kernel_rfl) rfl rfl fun hou=>?_
 repeat ((fail_if_success ((with_reducible refine oj ?_);refine AOps.atDst 4 rfl ?_));first|refine zO ?_)
 refine AOps.freeze1 (.l 0) 2 rfl rfl ?_
 refine zA ?_
 refine ACode.ghost ?_
 refine ACode.loopR hΓc (α:=Nat×Option Nat) (fun c=>[(13,.one (int c.1)),(12,.one (int (Q05 fns).length)),(11,.one (.sl 1 (Q05 fns))),(5,.one (oaC 1 1 ((nS ids top fns c.1).map cI) c.2)),(2,.one (.box (cG gt ids fns rest))),(1,.one (.sl 1 (top.map cI)))])
  (fun c=>⟨2,[(1,oaO 1 ((nS ids top fns c.1).map cI) c.2)],fun _=>none⟩) (fun m c=>c.1<=fns.length/\coO ((nS ids top fns c.1).map cI) c.2/\m=fns.length - c.1) (a0:=(0,none)) (ρ:=_root_.id) ⟨by omega,rfl,rfl⟩ (LessR.of rfl ?_ (by simp) zLO rfl rfl hou) fun m c hcc=>?_
 ·(repeat' first|exact FrSub.nil|refine zfc ?_|refine zfo ?_|refine zfp ?_)
 obtain⟨i,oc⟩:=c
 obtain⟨hil,hco,rfl⟩:=hcc
 dsimp only at hil hco
 refine zA ?_
 refine ACode.cond rfl (fun hb2=>?_) (fun hb2=>?_)
 ·have hlt:i < fns.length:=by simp[hel]at hb2;omega
  obtain⟨f,hfi⟩:=Q00 hlt
  have hfm:=List.mem_of_getElem? hfi
  obtain⟨hf1,hf2⟩:=hf f hfm
  have hfc:=Q3v hfm
  have hcl:=Q1u f []
  have hFl:=Q4s f
  simp only[List.length_nil]at hcl
  have hF:=Q82 hΓc hΓcF Qd3 Q9a f hf1 hf2 (by omega)
  have hSl:=nS_len ids top fns i
  obtain⟨fl,hfe⟩:∃fl,fl=Q1k f:=⟨_,rfl⟩
  rw[←hfe]at hF hFl
  refine zA ?_
  refine zS (zIA rfl rfl rfl (by omega) (Q0s hfi)) ?_
  refine zA ?_
  refine zca hΓc hF hou ?_
  refine zA ?_
  refine ACode.loopR hΓc (α:=Nat×Option Nat) (fun c=>[(20,.one (int c.1)),(19,.one (int (fl.map cI).length)),(18,.one (.sl 1 (fl.map cI))),(13,.one (int i)),(12,.one (int (Q05 fns).length)),(11,.one (.sl 1 (Q05 fns))),(5,.one (oaC 1 1 ((nT ids top (nS ids top fns i) fl c.1).map cI) c.2)),(2,.one (.box (cG gt ids fns rest))),(1,.one (.sl 1 (top.map cI)))])
   (fun c=>⟨2,[(1,oaO 1 ((nT ids top (nS ids top fns i) fl c.1).map cI) c.2)],fun _=>none⟩) (fun m c=>c.1<=fl.length/\coO ((nT ids top (nS ids top fns i) fl c.1).map cI) c.2/\m=fl.length - c.1) (a0:=(0,oc)) (ρ:=_root_.id) ⟨by omega,hco,rfl⟩ (LessR.of rfl ?_ (by simp) ?_ rfl rfl hou) fun m c hcc=>?_
  ·(repeat' first|exact FrSub.nil|refine zfc ?_|refine zfo ?_|refine zfp ?_)
  ·repeat' first|exact LoSub.nil|refine zlc ?_|refine zld ?_ ?_|rfl
  obtain⟨j,oc2⟩:=c
  obtain⟨hjl,hco2,rfl⟩:=hcc
  dsimp only at hjl hco2
  refine zA ?_
  refine ACode.cond rfl (fun hb3=>?_) (fun hb3=>?_)
  ·have hlt2:j < fl.length:=by simpa using hb3
   obtain⟨x,hx⟩:=Q00 hlt2
   have hTl:=nT_len ids top (nS ids top fns i) fl j
   have hTs:=nT_succ (ids:=ids) (top:=top) (a:=nS ids top fns i) hx
   refine zA ?_
   refine zS (zIA rfl rfl rfl (by omega) (Q0a hx)) ?_
   refine zA ?_
   refine AOps.callS hΓc (Q1z hΓc (nT ids top (nS ids top fns i) fl j) (by omega) x) (Plain.lit _) rfl rfl rfl rfl rfl rfl (.cons (Qj6 rfl hco2 (fun y hy=>by obtain⟨z,_,rfl⟩:=List.mem_map.1 hy;rfl) (by simp)) (.cons (.refl (by simp)) .nil)) ?_
   have keep:(nT ids top (nS ids top fns i) fl j).contains x=true∨ids.contains x=true∨top.contains x=true->nT ids top (nS ids top fns i) fl (j+1)=nT ids top (nS ids top fns i) fl j:=fun h=>by
    rw[hTs];unfold nd1
    rw[if_pos h]
   cases hc1:(nT ids top (nS ids top fns i) fl j).contains x with
   |true=>
    have hk:=keep (.inl hc1)
    refine zM ?_
    exact cInv ⟨fl.length - (j+1),(j+1,oc2),_root_.id,by omega,⟨by omega,by dsimp only;rw[hk];exact hco2,rfl⟩,LessR.of rfl (by dsimp only;rw[hk];(repeat' first|exact FrSub.nil|refine zfc ?_|refine zfo ?_|refine zfp ?_)) (by simp) (by dsimp only;rw[hk];repeat' first|exact LoSub.nil|refine zlc ?_|refine zld ?_ ?_|rfl) rfl rfl hou⟩
   |false=>
    refine zM ?_
    refine zca hΓc (Q1z hΓc ids hg x) hou ?_
    cases hc2:ids.contains x with
    |true=>
     have hk:=keep (.inr (.inl hc2))
     refine zM ?_
     exact cInv ⟨fl.length - (j+1),(j+1,oc2),_root_.id,by omega,⟨by omega,by dsimp only;rw[hk];exact hco2,rfl⟩,LessR.of rfl (by dsimp only;rw[hk];(repeat' first|exact FrSub.nil|refine zfc ?_|refine zfo ?_|refine zfp ?_)) (by simp) (by dsimp only;rw[hk];repeat' first|exact LoSub.nil|refine zlc ?_|refine zld ?_ ?_|rfl) rfl rfl hou⟩
    |false=>
     refine zM ?_
     refine zca hΓc (Q1z hΓc top htl x) hou ?_
     cases hc3:top.contains x with
     |true=>
      have hk:=keep (.inr (.inr hc3))
      refine zM ?_
      exact cInv ⟨fl.length - (j+1),(j+1,oc2),_root_.id,by omega,⟨by omega,by dsimp only;rw[hk];exact hco2,rfl⟩,LessR.of rfl (by dsimp only;rw[hk];(repeat' first|exact FrSub.nil|refine zfc ?_|refine zfo ?_|refine zfp ?_)) (by simp) (by dsimp only;rw[hk];repeat' first|exact LoSub.nil|refine zlc ?_|refine zld ?_ ?_|rfl) rfl rfl hou⟩
     |false=>
      have hk:nT ids top (nS ids top fns i) fl (j+1)=nT ids top (nS ids top fns i) fl j++[x]:=by rw[hTs];unfold nd1;rw[if_neg (by rw[hc1,hc2,hc3];simp)]
      refine zM ?_
      refine AOps.appG (k:=1) (s:=1) (es:=(nT ids top (nS ids top fns i) fl j).map cI) (oc:=oc2) (news:=[cI x]) tabOk rfl rfl rfl rfl rfl rfl rfl rfl rfl rfl hco2 (fun y hy=>by obtain⟨z,_,rfl⟩:=List.mem_map.1 hy;rfl) (.sl 1 _) (by simp) rfl (by simp only[List.length_map,List.length_cons,List.length_nil];show (_+_) * 8<=_;omega) (by simp only[List.length_map,List.length_cons,List.length_nil];omega) fun cap hc=>?_
      rw[show ((nT ids top (nS ids top fns i) fl j).map cI++[cI x])=(nT ids top (nS ids top fns i) fl (j+1)).map cI by rw[hk];simp]at hc ⊢
      refine zM ?_
      exact cInv ⟨fl.length - (j+1),(j+1,some cap),fun _=>2,by omega,⟨by omega,hc,rfl⟩,LessR.of rfl zFS (by simp) zLO rfl rfl hou⟩
  ·have hlt2:j=fl.length:=by simp at hb3;omega
   subst hlt2
   have hk:=nS_succ (ids:=ids) (top:=top) hfi
   rw[←hfe]at hk
   rw[←hk]at hco2 ⊢
   refine zM ?_
   exact cInv ⟨fns.length - (i+1),(i+1,oc2),_root_.id,by omega,⟨by omega,hco2,rfl⟩,LessR.of rfl zFS (by simp) zLO rfl rfl hou⟩
 ·have hlt:i=fns.length:=by simp[hel]at hb2;omega
  subst hlt
  have hSl:=nS_len ids top fns fns.length
  obtain⟨zs,hz⟩:∃zs,zs=nS ids top fns fns.length:=⟨_,rfl⟩
  have ho:Q0z ids top fns=zs.mergeSort fun x y=>decide (x<=y):=by rw[hz];unfold Q0z nS;rw[List.take_length]
  rw[←hz]at hco hSl ⊢
  refine zA ?_
  cases oc with
  |none=>
   have h0:zs=[]:=by simpa[coO]using hco
   refine AOps.callNo rfl rfl rfl rfl rfl rfl Q4j Q9a ?_
   refine zA ?_
   refine AFn.fin' rfl (WkF.ofEq rfl) (by simp[oaC,AC.ids]) hou (.inl ⟨by rw[ho,h0];simp,by simp[oaC]⟩)
  |some cap=>
   refine AOps.wk 47 rfl (y:=.one (.arr (.l 1) 1 0 zs.length cap)) (.ofEq (by simp[oaC])) ?_
   refine AOps.sortI (l:=zs) rfl rfl rfl rfl rfl rfl Q4j Qd3 rfl (by omega) ?_
   rw[←ho]
   refine AOps.wk 5 rfl (y:=.one (.arr (.l 1) 1 0 ((Q0z ids top fns).map iC).length cap)) (.ofEq (by rw[ho];simp[oaC])) ?_
   have hθ:∀(k:Nat) (i:Abs.Id),isO i->toOs [1] k i=i:=fun k i hi=>by cases i with|l q=>exact hi.elim|o q=>rfl
   refine AOps.cedes [1] rfl (by decide) hou fun k hk=>⟨[(5,.one (.arr (.o k) 1 0 ((Q0z ids top fns).map iC).length cap))],[],[.cells (vec 1 ((Q0z ids top fns).map iC) cap)],.cons rfl rfl .nil,.nil,.cons rfl (AObj.sub_f (hθ k) _ (Qcx _ (Q54 isO _))) .nil,?_⟩
   have hnew:ouAdd (fun _=>none) k [AObj.cells (vec 1 ((Q0z ids top fns).map iC) cap)] k=some (.cells (vec 1 ((Q0z ids top fns).map iC) cap)):=Q0e 0
   have hok:OuOk (ouAdd (fun _=>none) k [AObj.cells (vec 1 ((Q0z ids top fns).map iC) cap)]):=Q2f hou fun o ho=>by
    simp only[List.mem_cons,List.not_mem_nil,or_false]at ho
    subst ho;exact Qcx _ (Q54 isO _)
   refine zA ?_
   exact AFn.fin' rfl (WkF.ofEq rfl) (by simp[AC.ids]) hok (.inr ⟨k,cap,rfl,hnew⟩)
theorem fits_ok(gt rest:Tr)(ids:List Int)(fns:List Tr)(more:Int)(hm:0<=more/\more<=1048576)(hfl:fns.length<=1048576)(hfb:∀f∈fns,f.binds.length<=1048576){Γ:List (Nat×List AC)}(hΓ:∀g cs,(g,cs)∈Γ->idsL isO cs):
  APure Tryz.prog Γ 127 [.agg (cG gt ids fns rest),.one (int more)] (.one (.lit (.bool (!fns.any fun f=>decide ((f.binds.length:Int)+more > 6))))):=by
 have hC:∀t∈fns,APure Tryz.prog Γ 165 (.one (.box (cTr t))::[AC.box [int more]].map .one) (.one (.lit (.bool (decide ((t.binds.length:Int)+more > 6))))):=fun t ht=>by
  have hb:=hfb t ht
  obtain⟨o,n,b,k,a⟩:=t
  simp only[Tr.binds_mk]at hb ⊢
  intro ou
  refine AFn.walk 12 tabOk Tryz.func165 rfl (by kernel_rfl) rfl rfl fun hou=>?_
  refine zA ?_
  refine ACode.drawX tabOk 8 [(6,.one (int (((b.map cI).length:Int)+more)))] follows (by kernel_rfl) rfl rfl rfl rfl ?_ ?_
  ·exact .step rfl (zHP (AStep.arith rfl rfl rfl (.inl ⟨rfl,rfl⟩) (Q1y (by simp;omega) (by simp;omega)))) .nil
  refine zA ?_
  exact APure.fin rfl (WkF.ofEq (by simp)) (by simp) hou rfl
 intro ou
 refine AFn.walk 10 tabOk Tryz.func127 rfl (by kernel_rfl) rfl rfl fun hou=>?_
 repeat ((fail_if_success ((with_reducible refine oj ?_);refine AOps.atDst 4 rfl ?_));first|refine zO ?_)
 refine AOps.freeze1 (.l 0) 2 rfl rfl ?_
 refine AOps.freeze1 (.l 1) 3 rfl rfl ?_
 refine zA ?_
 refine AOps.callC hΓ (Q5u hΓ 165 [AC.box [int more]] (by simp[AC.ids]) _ fns hfl hC) rfl rfl rfl rfl rfl rfl rfl hou (by simp[idsF,FV.ids,AC.ids,idsL]) ?_
 refine zA ?_
 exact APure.fin rfl (WkF.ofEq rfl) (by simp) hou rfl
theorem Qj5{Γ:List (Nat×List AC)}(hΓ:∀g cs,(g,cs)∈Γ->idsL isO cs)(gt rest:Tr)(ids:List Int)(fns:List Tr)(hil:ids.length<=1048576)(hfl:fns.length=ids.length)(hfb:∀f∈fns,f.binds.length<=1048576)(t:Tr)(hk:0 < t.kids.length)(hG:TrG t):
  APure Tryz.prog Γ 125 (.one (.box (cTr t))::[AC.box (cG gt ids fns rest)].map .one) (.one (.lit (.bool (!knT ids (arL fns) (kdT t 0))))):=by
 obtain⟨k0,hk0⟩:=Q00 (l:=t.kids) (i:=0) hk
 have hg0:(Q05 t.kids)[(0:Int).toNat]?=some (cB k0):=Q0s hk0
 rw[kdT_get hk0]
 have hc:=Q9q hΓ gt ids fns rest hil hfl hfb k0 (hG.kid (List.mem_of_getElem? hk0))
 intro ou
 refine AFn.walk 13 tabOk Tryz.func125 rfl (by kernel_rfl) rfl rfl fun hou=>?_
 refine zA ?_
 refine ACode.drawX tabOk 9 [(5,.one (.box (cB k0))),(7,.one (.lit (.bool (knT ids (arL fns) k0))))] follows (by kernel_rfl) rfl rfl rfl rfl ?_ ?_
 ·refine .step rfl (zHP (zIA rfl rfl rfl (by decide) hg0)) ?_
  exact .step rfl (zHP (AStep.callP hΓ rfl rfl rfl rfl (by simp[idsF,FV.ids,AC.ids,idsL]) hou hc)) .nil
 refine zA ?_
 exact APure.fin rfl (WkF.ofEq rfl) (by simp) hou rfl
def vT (n:Int):Tr:=.mk 0 n [] [] []
mutual
def exT (ids needs:List Int):Tr->Tr
 |.mk o n b k a=>.mk o n b (exTs ids needs k++if isCl ids o k=true then needs.map vT else []) a
def exTs (ids needs:List Int):List Tr->List Tr
 |[]=>[]
 |t::l=>exT ids needs t::exTs ids needs l
end
theorem Qa1(ids needs:List Int):∀l:List Tr,exTs ids needs l=l.map (exT ids needs)
 |[]=>rfl
 |t::l=>by simp[exTs,Qa1 ids needs l]
theorem exT_op(ids needs:List Int):∀t:Tr,(exT ids needs t).op=t.op/\(exT ids needs t).n=t.n/\(exT ids needs t).binds=t.binds/\(exT ids needs t).alts=t.alts
 |.mk o n b k a=>⟨rfl,rfl,rfl,rfl⟩
def UpdQK (ou:Outer)(t:LTk)(X:Tr)(r:FV)(ou':Outer):Prop:=r=.tup []/\∃t':LTk,erK t'=X/\t'.id=t.id/\UpdL ou (obK t) ou' (obK t')
def gcO (gi ri:Nat)(ids:List Int)(fns:List LTk):List AC:=[.ptr (.o gi) 0,.sl 1 (ids.map cI),.sl 1 (kK fns),.ptr (.o ri) 0]
@[simp] theorem ids_gcO (gi ri:Nat) (ids:List Int) (fns:List LTk):idsL isO (gcO gi ri ids fns):=by simp[gcO,idsL,AC.ids,isO]
@[simp] theorem ids_gcO_l (k:Nat) (gi ri:Nat) (ids:List Int) (fns:List LTk):idsL (inL k) (gcO gi ri ids fns):=by simp[gcO,idsL,AC.ids,inL]
theorem UpdL.grow{ou:Outer}{i tk k:Nat}{R:List (Nat×AObj)}{c c' τ w τ' τ0:AObj}(hO:Owns ou ((i,c)::(tk,τ)::R))(hn:(keys ((i,c)::(tk,τ)::R)).Nodup)(hk:∀m,k<=m->updO ou tk .dead m=none)(hou:OuOk ou)(hc:c'.ids isO)(hw:w.ids isO)(hτ:τ'.ids isO)(hτ0:τ0.ids isO):
  UpdL ou ((i,c)::(tk,τ)::R) (updO (ouAdd (updO ou tk .dead) k [w,τ',τ0]) i c') ((i,c')::(k+1,τ')::(R++[(k,w),(k+2,τ0)])):=by
 have hi:ou i=some c:=hO (i,c) (by simp)
 have ht:ou tk=some τ:=hO (tk,τ) (by simp)
 simp only[keys,List.map_cons,List.nodup_cons,List.mem_cons,not_or]at hn
 obtain⟨⟨hit,hiR⟩,htR,hR⟩:=hn
 have hid:updO ou tk .dead i=some c:=by rw[Q04 _ (Ne.symm hit)];exact hi
 have hik:i < k:=Q1d hk hid
 have htk:tk < k:=Q1d hk (Q06 ou tk .dead)
 have hRk:∀p∈R,p.1 < k/\p.1≠i/\p.1≠tk:=fun p hp=>by
  have h1:p.1≠tk:=fun e=>htR (e▸List.mem_map_of_mem hp)
  exact⟨Q1d hk (by rw[Q04 _ (Ne.symm h1)];exact hO p (by simp[hp])),fun e=>hiR (e▸List.mem_map_of_mem hp),h1⟩
 have hRk':∀j∈R.map (·.1),j < k:=fun j hj=>by obtain⟨p,hp,rfl⟩:=List.mem_map.1 hj;exact (hRk p hp).1
 have hnone:∀m,k<=m->ou m=none:=fun m hm=>by
  have:=hk m hm
  rwa [Q04 _ (by omega)]at this
 refine⟨fun p hp=>?_,?_,fun j hj=>?_,fun j hj hne=>?_,Q2d (Q2f (Q2d hou trivial) fun o ho=>?_) hc⟩
 ·simp only[List.mem_cons,List.mem_append,List.not_mem_nil,or_false]at hp
  rcases hp with rfl|rfl|hp|rfl|rfl
  ·exact Q06 _ _ _
  ·rw[Q04 _ (by show i≠k+1;omega)];exact Q0e 1
  ·obtain⟨h1,h2,h3⟩:=hRk p hp
   rw[Q04 _ (Ne.symm h2),Q0f h1,Q04 _ (Ne.symm h3)]
   exact hO p (by simp[hp])
  ·rw[Q04 _ (by show i≠k;omega)];exact Q0e 0
  ·rw[Q04 _ (by show i≠k+2;omega)];exact Q0e 2
 ·simp only[keys,List.map_cons,List.map_append,List.map_nil,List.nodup_cons,List.mem_cons,List.mem_append,not_or,List.not_mem_nil,or_false]
  refine⟨⟨by omega,hiR,by omega,by omega⟩,⟨fun h=>?_,by omega,by omega⟩,List.nodup_append.2 ⟨hR,by simp,fun a ha b hb=>?_⟩⟩
  ·have:=hRk' _ h;omega
  ·have:=hRk' _ ha
   simp only[List.mem_cons,List.not_mem_nil,or_false]at hb
   rcases hb with rfl|rfl <;> omega
 ·simp only[keys,List.map_cons,List.map_append,List.map_nil,List.mem_cons,List.mem_append,List.not_mem_nil,or_false]at hj ⊢
  rcases hj with rfl|rfl|hj|rfl|rfl
  ·exact .inl (.inl rfl)
  ·exact .inr (hnone _ (by omega))
  ·exact .inl (.inr (.inr hj))
  ·exact .inr (hnone _ (by omega))
  ·exact .inr (hnone _ (by omega))
 ·simp only[keys,List.map_cons,List.mem_cons,not_or]at hj
  have hjk:j < k:=Decidable.byContradiction fun h=>hne (hnone j (by omega))
  rw[Q04 _ (Ne.symm hj.1),Q0f hjk,Q04 _ (Ne.symm hj.2.1)]
 ·simp only[List.mem_cons,List.not_mem_nil,or_false]at ho
  rcases ho with rfl|rfl|rfl
  ·exact hw
  ·exact hτ
  ·exact hτ0
theorem AStep.less{E:Env}{o:Oper}{fr:Fr}{σ σ':St}{x y:FV}(h:AStep E o fr σ x σ')(hw:WkF x y):AStep E o fr σ y σ':=fun F w C tmps hi hf next Q hk=>h F w C tmps hi hf next Q fun u w' C' hg hi' hr=>hk u w' C' hg hi' (hw _ _ _ hr)
theorem Qd1(θ:Abs.Id->Abs.Id):∀l r:List (List AC),subS θ (l++r)=subS θ l++subS θ r
 |[],r=>rfl
 |x::l,r=>by simp[subS,Qd1 θ l r]
theorem Qh5{l r:List LTk}(h:l.map LTk.id=r.map LTk.id):kK l=kK r:=by
 unfold kK
 have:∀l:List LTk,l.map (fun t=>[AC.ptr (.o t.id) 0])=(l.map LTk.id).map fun i=>[AC.ptr (.o i) 0]:=fun l=>by simp
 rw[this l,this r,h]
theorem Qjn(ids needs:List Int)(l r:List Tr):exTs ids needs (l++r)=exTs ids needs l++exTs ids needs r:=by simp[Qa1]
theorem Q0v(i tk:Nat)(o n:Int)(b:List Int)(ks:List LTk)(a:List Alt):obK (.mk i tk o n b ks a)=(i,nK tk o n b ks a)::(tk,tO ks.length)::obKs ks:=by simp[obK]
set_option maxHeartbeats 1000000 in
theorem Q7t(hΓ:∀g cs,(g,cs)∈Γ->idsL isO cs)(gi ri:Nat)(ids needs:List Int)(gf:List LTk)(hil:ids.length<=1048576)(hnl:needs.length<=1048576):∀t:LTk,TrG (erK t)->∀ou:Outer,Owns ou (obK t)->(keys (obK t)).Nodup->OuOk ou->
  AFn Tryz.prog Γ 128 [.agg (gcO gi ri ids gf),.one (.ptr (.o t.id) 0),.one (.sl 1 (needs.map cI))] ou (UpdQK ou t (exT ids needs (erK t)))
 |.mk i tk o n b ks a,hG,ou,hO,hn,hou0=>by
  have ih:∀t∈ks,∀ou:Outer,Owns ou (obK t)->(keys (obK t)).Nodup->OuOk ou->AFn Tryz.prog Γ 128 [.agg (gcO gi ri ids gf),.one (.ptr (.o t.id) 0),.one (.sl 1 (needs.map cI))] ou (UpdQK ou t (exT ids needs (erK t))):=
   fun t ht=>Q7t hΓ gi ri ids needs gf hil hnl t (hG.kid (by simp only[erK,Tr.kids_mk];exact Q3s ht))
  have hkl:ks.length<=1048576:=by have:=hG.kl;simp only[erK,Tr.kids_mk,Q0w]at this;exact this
  have hi:ou i=some (nK tk o n b ks a):=(ownsK hO).1
  have hsn:=Q24 hG.sh
  simp only[erK,Tr.op_mk,Tr.n_mk,Tr.binds_mk,Tr.kids_mk,Tr.alts_mk,Q0w]at hsn
  refine AFn.walk 74 tabOk Tryz.func128 rfl (by kernel_rfl) rfl rfl fun hou=>?_
  repeat ((fail_if_success ((with_reducible refine oj ?_);refine AOps.atDst 10 rfl ?_));first|refine zO ?_)
  refine AOps.freeze1 (.l 0) 3 rfl rfl ?_
  unfold nK at hi
  repeat' first|refine zN ?_|((with_reducible refine oj ?_);first|refine zix ?_|refine zow rfl rfl hi ?_)
  refine ACode.loopR hΓ (α:=List LTk×Outer) (fun c=>[(15,.one (int c.1.length)),(14,.one (int (kK ks).length)),(13,.one (.sl 1 (kK ks))),(3,.one (.box (gcO gi ri ids gf))),(2,.one (.sl 1 (needs.map cI))),(1,.one (.ptr (.o i) 0))])
   (fun c=>⟨1,[],c.2⟩) (fun m c=>(c.1.length<=ks.length/\c.1.map LTk.id=(ks.take c.1.length).map LTk.id/\erKs c.1=exTs ids needs (erKs (ks.take c.1.length))/\UpdL ou (obK (.mk i tk o n b ks a)) c.2 (obK (.mk i tk o n b (c.1++ks.drop c.1.length) a)))/\m=ks.length - c.1.length) (a0:=([],ou)) (ρ:=_root_.id)
   ⟨⟨by simp,by simp,by simp[erKs,exTs],UpdL.refl hO hn hou0⟩,rfl⟩ (LessR.of rfl ?_ (by simp) zLO rfl rfl hou) fun m c hc=>?_
  ·refine .cons rfl (.ofEq rfl) (.cons rfl (.ofEq rfl) (.consP rfl (.one (.gsE rfl)) (by simp) ?_))
   (repeat' first|exact FrSub.nil|refine zfc ?_|refine zfo ?_|refine zfp ?_)
  obtain⟨ds,ov⟩:=c
  obtain⟨⟨hdl,hdi,hde,hU⟩,rfl⟩:=hc
  dsimp only at hdl hdi hde hU
  have hov:=hU.ok
  have hkk:kK (ds++ks.drop ds.length)=kK ks:=Qh5 (by
   rw[List.map_append,hdi,←List.map_append,List.take_append_drop])
  refine zA ?_
  refine ACode.cond rfl (fun hb=>?_) (fun hb=>?_)
  ·have hlt:ds.length < ks.length:=by simp[Q1s]at hb;omega
   obtain⟨t,ht⟩:=Q00 hlt
   have htm:=List.mem_of_getElem? ht
   have hsp:ks.drop ds.length=t::ks.drop (ds.length+1):=by
    rw[List.drop_eq_getElem_cons hlt]
    congr 1
    exact Option.some.inj ((List.getElem?_eq_getElem hlt).symm.trans ht)
   rw[hsp]at hU
   have hOt:Owns ov (obK t):=Q8e (ownsK hU.own).2.2 (by simp)
   have hnt:(keys (obK t)).Nodup:=Q4m hU.nd
   refine zA ?_
   refine zS (zIA rfl rfl rfl (by omega) (Q8p ht)) ?_
   refine zA ?_
   refine AOps.call1 hΓ rfl rfl rfl rfl rfl rfl rfl ⟨by simp,trivial,by simp,trivial⟩ hov (ih t htm ov hOt hnt hov) fun r ou' hq _ how=>?_
   obtain⟨rfl,t',het,hid,hUt⟩:=hq
   have hU2:=hU.trans (UpdL.kidK hUt hid hU.own hU.nd)
   refine zM ?_
   refine cInv ⟨ks.length - (ds.length+1),(ds++[t'],ou'),_root_.id,by dsimp only;omega,⟨⟨by show (ds++[t']).length<=ks.length;rw[List.length_append,List.length_singleton];omega,?_,?_,?_⟩,by simp⟩,LessR.of rfl (by simp only[List.length_append,List.length_singleton];(repeat' first|exact FrSub.nil|refine zfc ?_|refine zfo ?_|refine zfp ?_)) (by simp) zLO rfl rfl how⟩
   ·simp only[List.length_append,List.length_singleton,List.map_append,List.map_cons,List.map_nil,hdi,hid,Q0n ht]
   ·simp only[List.length_append,List.length_singleton,Q0n ht,Q1g,Qjn,hde]
    simp[erKs,exTs,het]
   ·simp only[List.length_append,List.length_singleton,List.append_assoc,List.cons_append,List.nil_append]
    exact hU2
  have hdl2:ds.length=ks.length:=by simp[Q1s]at hb;omega
  rw[hdl2,List.drop_length,List.append_nil]at hU hkk
  rw[hdl2,List.take_length]at hdi hde
  have hi2:ov i=some (nK tk o n b ds a):=(ownsK hU.own).1
  unfold nK at hi2
  clear hb
  have hend:isCl ids o (erKs ks)=false->∃t':LTk,erK t'=exT ids needs (erK (.mk i tk o n b ks a))/\t'.id=i/\UpdL ou (obK (.mk i tk o n b ks a)) ov (obK t'):=fun h=>by
   refine⟨_,?_,rfl,hU⟩
   simp only[erK,exT,h,hde]
   simp
  by_cases h3:o=3
  ·subst h3
   have hne:0 < ds.length:=by have:=hsn.app.1;omega
   obtain⟨d0,dr,rfl⟩:∃d0 dr,ds=d0::dr:=by
    cases ds with
    |nil=>simp at hne
    |cons a l=>exact⟨a,l,rfl⟩
   obtain⟨k0,kr,rfl⟩:∃k0 kr,ks=k0::kr:=by
    cases ks with
    |nil=>simp at hdl2
    |cons a l=>exact⟨a,l,rfl⟩
   obtain⟨i0,tk0,o0,n0,b0,ks0,a0⟩:=d0
   have he0:erK (.mk i0 tk0 o0 n0 b0 ks0 a0)=exT ids needs (erK k0):=by
    simp only[erKs,exTs,List.cons.injEq]at hde
    exact hde.1
   have hek:=exT_op ids needs (erK k0)
   rw[←he0]at hek
   have hcl:isCl ids 3 (erKs (k0::kr))=((o0==0)&&ids.contains n0):=by
    have h1:=hek.1
    have h2:=hek.2.1
    simp only[erK,Tr.op_mk,Tr.n_mk]at h1 h2
    simp only[isCl,erKs,List.getD_cons_zero,←h1,←h2]
    simp
   have h00:ov i0=some (nK tk0 o0 n0 b0 ks0 a0):=(ownsK (Q8e (ownsK hU.own).2.2 (t:=.mk i0 tk0 o0 n0 b0 ks0 a0) (by simp))).1
   unfold nK at h00
   have hgk:(kK (.mk i0 tk0 o0 n0 b0 ks0 a0::dr))[(0:Int).toNat]?=some [.ptr (.o i0) 0]:=rfl
   refine zA ?_
   by_cases h0:o0=0
   ·subst h0
    refine ACode.drawX tabOk 30 [(3,.one (int 3)),(9,.one (.sl 1 (kK (.mk i0 tk0 0 n0 b0 ks0 a0::dr)))),(10,.one (.box [.ptr (.o i0) 0])),(14,.one (int 0)),(23,.one (.sl 1 (kK (.mk i0 tk0 0 n0 b0 ks0 a0::dr)))),(24,.one (.box [.ptr (.o i0) 0])),(28,.one (int n0)),(29,.one (.lit (.bool (ids.contains n0))))] follows (by kernel_rfl) rfl rfl rfl rfl ?_ ?_
    ·refine .step rfl (zHP (zLD rfl rfl hi2 rfl)) ?_
     refine .step rfl (HStep.guarded rfl rfl rfl (AStep.less (zLD rfl rfl hi2 rfl) (.one (.gsE rfl)))) ?_
     refine .step rfl (HStep.guarded rfl rfl rfl (zIA rfl rfl rfl (by decide) hgk)) ?_
     refine .step rfl (HStep.guarded rfl rfl rfl (zLD rfl rfl h00 rfl)) ?_
     refine .step rfl (HStep.guarded rfl rfl rfl (AStep.less (zLD rfl rfl hi2 rfl) (.one (.gsE rfl)))) ?_
     refine .step rfl (HStep.guarded rfl rfl rfl (zIA rfl rfl rfl (by decide) hgk)) ?_
     refine .step rfl (HStep.guarded rfl rfl rfl (zLD rfl rfl h00 rfl)) ?_
     exact .step rfl (HStep.guarded rfl rfl rfl (AStep.callP hΓ rfl rfl rfl rfl (by simp) hov (Q1z hΓ ids hil n0))) .nil
    refine zA ?_
    refine ACode.cond rfl (fun hb=>?_) (fun hb=>?_)
    ·have hin:ids.contains n0=true:=by simpa using hb
     refine zA ?_
     have hX:exT ids needs (erK (.mk i tk 3 n b (k0::kr) a))=.mk 3 n b (erKs (.mk i0 tk0 0 n0 b0 ks0 a0::dr)++needs.map vT) a:=by
      simp only[erK,exT]
      rw[if_pos (by rw[hcl,hin];rfl),hde]
     rw[hX]
     obtain⟨D,hD⟩:∃D:List LTk,D=.mk i0 tk0 0 n0 b0 ks0 a0::dr:=⟨_,rfl⟩
     rw[←hD]at hU hdl2 ⊢
     have hDl:D.length<=1048576:=by omega
     refine ACode.loopR hΓ (α:=Nat×Nat×List LTk×Outer) (fun c=>[(57,.one (int c.1)),(56,.one (int (needs.map cI).length)),(55,.one (.sl 1 (needs.map cI))),(1,.one (.ptr (.o i) 0))])
      (fun c=>⟨1,[],c.2.2.2⟩) (fun m c=>(c.1<=needs.length/\c.2.2.1.length=c.1/\erKs c.2.2.1=(needs.take c.1).map vT/\UpdL ou (obK (.mk i tk 3 n b (k0::kr) a)) c.2.2.2 (obK (.mk i c.2.1 3 n b (D++c.2.2.1) a)))/\m=needs.length - c.1) (a0:=(0,tk,[],ov)) (ρ:=_root_.id)
      ⟨⟨by omega,rfl,rfl,by rw[List.append_nil];exact hU⟩,rfl⟩ (LessR.of rfl zFS (by simp) zLO rfl rfl hov) fun m c hc=>?_
     obtain⟨q,tq,ns,ow⟩:=c
     obtain⟨⟨hq,hnsl,hnse,hUq⟩,rfl⟩:=hc
     dsimp only at hq hnsl hnse hUq
     have how:=hUq.ok
     refine zA ?_
     refine ACode.cond rfl (fun hb2=>?_) (fun hb2=>?_)
     ·have hlt2:q < needs.length:=by simpa using hb2
      obtain⟨x,hx⟩:=Q00 hlt2
      have hi3:=(ownsK hUq.own).1
      have ht3:=(ownsK hUq.own).2.1
      unfold nK at hi3
      unfold tO at ht3
      have hkl3:(kK (D++ns)).length=D.length+q:=by rw[Q1s];simp[hnsl]
      refine zA ?_
      refine zS (zIA rfl rfl rfl (by omega) (Q0a hx)) ?_
      repeat' first|refine zN ?_|((with_reducible refine oj ?_);first|refine zix ?_|refine zow rfl rfl hi3 ?_)
      refine AOps.growO 1 3 68 1 rfl rfl ?_
      refine AOps.wkObj (.l 1) rfl (cs':=[int 0,int x,.sl 1 [],.gs 1 [] (.l 2),.sl 2 []]) (fun w C xs h=>(show WkL _ _ from .cons (.refl _) (.cons (.refl _) (.cons (.nilS 1) (.cons (.refl _) (.cons (.nilS 2) .nil))))) w C xs h) ?_
      refine AOps.app tabOk rfl rfl rfl rfl rfl rfl rfl rfl rfl (Base.gs' _ 68 1 (kK (D++ns)) (.o tq) ht3 (by rw[hkl3];simp[hnsl])) (.sl _ _) rfl ?_ ?_ ?_
      ·rw[hkl3];show (_+1) * 8<=_;omega
      ·rw[hkl3];show _+1<=_;omega
      refine zA ?_
      have hθ:∀(k:Nat) (i:Abs.Id),isO i->toOs [1,3,2] k i=i:=fun k i hi=>by cases i with|l q=>exact hi.elim|o q=>rfl
      have hsb:∀k,subS (toOs [1,3,2] k) (kK (D++ns))=kK (D++ns):=fun k=>by
       have h1:=AC.sub_f (hθ k) (.sl 1 (kK (D++ns))) (by simp)
       simpa only [AC.sub,AC.sl.injEq,true_and]using h1
      refine AOps.stEq (congrArg (fun s=>St.push s (.tok 68 1 (kK (D++ns)++[[AC.ptr (.l 1) 0]]).length)) (Q2l _ _ ow tq .dead)) ?_
      have hod:OuOk (updO ow tq .dead):=Q2d how trivial
      refine AOps.cedes [1,3,2] rfl (by decide) hod fun k hk=>⟨[(72,.one (.ptr (.o i) 3)),(70,.one (.gs 1 (kK (D++ns)++[[.ptr (.o k) 0]]) (.o (k+1)))),(57,.one (int q)),(56,.one (int (needs.map cI).length)),(55,.one (.sl 1 (needs.map cI))),(1,.one (.ptr (.o i) 0))],[],
       [nK (k+2) 0 x [] [] [],tO (D.length+q+1),tO 0],?_,.nil,?_,?_⟩
      ·refine .cons rfl rfl (.cons rfl ?_ (.cons rfl rfl (.cons rfl rfl (.cons rfl (FV.sub_f (hθ k) _ (by simp)) (.cons rfl rfl .nil)))))
       show FV.one (AC.gs 1 (subS (toOs [1,3,2] k) (kK (D++ns)++[[AC.ptr (.l 1) 0]])) (.o (k+1)))=_
       rw[Qd1,hsb];rfl
      ·refine .cons rfl rfl (.cons rfl ?_ (.cons rfl rfl .nil))
       show AObj.tok _ 1 (kK (D++ns)++[[AC.ptr (.l 1) 0]]).length=_
       rw[List.length_append,hkl3];rfl
      have hnd:=hUq.nd
      rw[Q0v]at hnd
      have hne3:tq≠i:=fun e=>by
       simp only[keys,List.map_cons,List.nodup_cons,List.mem_cons,not_or]at hnd
       exact hnd.1.1 e.symm
      have hi4:updO ow tq .dead i=some (.cells [int 3,int n,.sl 1 (b.map cI),.gs 1 (kK (D++ns)) (.o tq),.sl 2 (a.map cAlt)]):=by rw[Q04 _ hne3];exact hi3
      have hik:=Q1d hk hi4
      obtain⟨u,hu⟩:∃u:LTk,u=.mk k (k+2) 0 x [] [] []:=⟨_,rfl⟩
      have hkn:kK (D++ns)++[[.ptr (.o k) 0]]=kK (D++(ns++[u])):=by rw[←List.append_assoc,Q9s,hu];rfl
      have hln:D.length+q+1=(D++(ns++[u])).length:=by simp[hnsl];omega
      have hO3:=hUq.own
      have hn3:=hUq.nd
      rw[Q0v]at hO3 hn3
      have hU3:=UpdL.grow (c':=nK (k+1) 3 n b (D++(ns++[u])) a) (w:=nK (k+2) 0 x [] [] []) (τ':=tO (D.length+q+1)) (τ0:=tO 0) hO3 hn3 hk how (Qb3 _ _ _ _ _ _) (Qb3 _ _ _ _ _ _) trivial trivial
      rw[←Q0v]at hU3
      have hob:(i,nK (k+1) 3 n b (D++(ns++[u])) a)::(k+1,tO (D.length+q+1))::(obKs (D++ns)++[(k,nK (k+2) 0 x [] [] []),(k+2,tO 0)])=obK (.mk i (k+1) 3 n b (D++(ns++[u])) a):=by
       rw[Q0v,hln,←List.append_assoc,Q16 (D++ns) [u],hu]
       simp[obKs,obK]
      rw[hob]at hU3
      have hU4:=hUq.trans hU3
      rw[hkn]
      refine AOps.storeOwn tabOk rfl rfl rfl rfl rfl rfl rfl (show ouAdd (updO ow tq .dead) k _ i=some (.cells [int 3,int n,.sl 1 (b.map cI),.gs 1 (kK (D++ns)) (.o tq),.sl 2 (a.map cAlt)])from (Q0f hik).trans hi4) (by simp) ?_
      rw[Q2l]
      refine zM ?_
      refine cInv ⟨needs.length - (q+1),(q+1,k+1,ns++[u],_),_root_.id,by dsimp only;omega,⟨⟨by dsimp only;omega,by simp[hnsl],?_,hU4⟩,rfl⟩,LessR.of rfl zFS (by simp) zLO rfl rfl hU4.ok⟩
      rw[Q1g,hnse,Q0n hx,List.map_append,hu]
      rfl
     ·have hql:q=needs.length:=by simp at hb2;omega
      subst hql
      rw[List.take_length]at hnse
      refine zA ?_
      refine AFn.fin' rfl (WkF.ofEq rfl) (by simp[FV.ids,idsF]) how ⟨rfl,.mk i tq 3 n b (D++ns) a,?_,rfl,hUq⟩
      rw[←hnse,hD]
      simp only[erK,Q1g]
    ·have hin:ids.contains n0=false:=by simpa using hb
     obtain⟨t',e1,e2,e3⟩:=hend (by rw[hcl,hin];simp)
     refine zA ?_
     exact AFn.fin' rfl (WkF.ofEq rfl) (by simp[FV.ids,idsF]) hov ⟨rfl,t',e1,e2,e3⟩
   ·obtain⟨t',e1,e2,e3⟩:=hend (by rw[hcl];simp[h0])
    refine ACode.drawX tabOk 30 [(3,.one (int 3)),(9,.one (.sl 1 (kK (.mk i0 tk0 o0 n0 b0 ks0 a0::dr)))),(10,.one (.box [.ptr (.o i0) 0])),(14,.one (int o0)),(15,.one (.lit (.bool false)))] follows (by kernel_rfl) rfl rfl rfl rfl ?_ ?_
    ·refine .step rfl (zHP (zLD rfl rfl hi2 rfl)) ?_
     refine .step rfl (HStep.guarded rfl rfl rfl (AStep.less (zLD rfl rfl hi2 rfl) (.one (.gsE rfl)))) ?_
     refine .step rfl (HStep.guarded rfl rfl rfl (zIA rfl rfl rfl (by decide) hgk)) ?_
     refine .step rfl (HStep.guarded rfl rfl rfl (zLD rfl rfl h00 rfl)) ?_
     exact .step rfl (HStep.guarded rfl rfl rfl (AStep.less (AStep.ofOp tabOk rfl) (.ofEq (by simp[h0])))) .nil
    refine zM ?_
    exact AFn.fin' rfl (WkF.ofEq rfl) (by simp[FV.ids,idsF]) hov ⟨rfl,t',e1,e2,e3⟩
  ·obtain⟨t',e1,e2,e3⟩:=hend (by simp[isCl,h3])
   refine zA ?_
   refine ACode.drawX tabOk 30 [(3,.one (int o)),(4,.one (.lit (.bool false)))] follows (by kernel_rfl) rfl rfl rfl rfl ?_ ?_
   ·refine .step rfl (zHP (zLD rfl rfl hi2 rfl)) ?_
    exact .step rfl (HStep.litB tabOk rfl (by simp[h3])) .nil
   refine zM ?_
   exact AFn.fin' rfl (WkF.ofEq rfl) (by simp[FV.ids,idsF]) hov ⟨rfl,t',e1,e2,e3⟩
def rmI (frm to:List Int)(n:Int):Int:=if 0<=idxOf (n==·) frm then to.getD (idxOf (n==·) frm).toNat 0 else n
mutual
def rmT (frm to:List Int):Tr->Tr
 |.mk o n b k a=>.mk o (if o=0 then rmI frm to n else n) b (rmTs frm to k) a
def rmTs (frm to:List Int):List Tr->List Tr
 |[]=>[]
 |t::l=>rmT frm to t::rmTs frm to l
end
theorem Qg0(frm to:List Int):∀l:List Tr,rmTs frm to l=l.map (rmT frm to)
 |[]=>rfl
 |t::l=>by simp[rmTs,Qg0 frm to l]
theorem Qim(frm to:List Int)(l r:List Tr):rmTs frm to (l++r)=rmTs frm to l++rmTs frm to r:=by simp[Qg0]
theorem UpdL.node{ou:Outer}{i:Nat}{R:List (Nat×AObj)}{c c':AObj}(hO:Owns ou ((i,c)::R))(hn:(keys ((i,c)::R)).Nodup)(hou:OuOk ou)(hc:c'.ids isO):UpdL ou ((i,c)::R) (updO ou i c') ((i,c')::R):=by
 have hn':=hn
 simp only[keys,List.map_cons,List.nodup_cons]at hn'
 refine⟨fun p hp=>?_,hn,fun j hj=>.inl hj,fun j hj hne=>?_,Q2d hou hc⟩
 ·simp only[List.mem_cons]at hp
  rcases hp with rfl|hp
  ·exact Q06 _ _ _
  ·rw[Q04 _ (fun e=>hn'.1 (by rw[e];exact List.mem_map_of_mem hp))]
   exact hO p (by simp[hp])
 ·simp only[keys,List.map_cons,List.mem_cons,not_or]at hj
  rw[Q04 _ (Ne.symm hj.1)]
theorem UpdL.nodeK{ou:Outer}{i tk:Nat}{o n n':Int}{b b':List Int}{ks:List LTk}{a:List Alt}(hO:Owns ou (obK (.mk i tk o n b ks a)))(hn:(keys (obK (.mk i tk o n b ks a))).Nodup)(hou:OuOk ou):UpdL ou (obK (.mk i tk o n b ks a)) (updO ou i (nK tk o n' b' ks a)) (obK (.mk i tk o n' b' ks a)):=by
 rw[Q0v]at hO hn ⊢
 rw[Q0v]
 exact UpdL.node hO hn hou (Qb3 _ _ _ _ _ _)
set_option maxHeartbeats 1000000 in
theorem Q8a(hΓ:∀g cs,(g,cs)∈Γ->idsL isO cs)(frm to:List Int)(hfl:frm.length<=1048576)(htl:to.length=frm.length):∀t:LTk,TrG (erK t)->∀ou:Outer,Owns ou (obK t)->(keys (obK t)).Nodup->OuOk ou->
  AFn Tryz.prog Γ 129 [.one (.ptr (.o t.id) 0),.one (.sl 1 (frm.map cI)),.one (.sl 1 (to.map cI))] ou (UpdQK ou t (rmT frm to (erK t)))
 |.mk i tk o n b ks a,hG,ou,hO,hn,hou0=>by
  have ih:∀t∈ks,∀ou:Outer,Owns ou (obK t)->(keys (obK t)).Nodup->OuOk ou->AFn Tryz.prog Γ 129 [.one (.ptr (.o t.id) 0),.one (.sl 1 (frm.map cI)),.one (.sl 1 (to.map cI))] ou (UpdQK ou t (rmT frm to (erK t))):=
   fun t ht=>Q8a hΓ frm to hfl htl t (hG.kid (by simp only[erK,Tr.kids_mk];exact Q3s ht))
  have hkl:ks.length<=1048576:=by have:=hG.kl;simp only[erK,Tr.kids_mk,Q0w]at this;exact this
  have hi:ou i=some (nK tk o n b ks a):=(ownsK hO).1
  unfold nK at hi
  obtain⟨N,hN⟩:∃N,N=if o=0 then rmI frm to n else n:=⟨_,rfl⟩
  refine AFn.walk 43 tabOk Tryz.func129 rfl (by kernel_rfl) rfl rfl fun hou=>?_
  repeat' first|refine zN ?_|((with_reducible refine oj ?_);first|refine zix ?_|refine zow rfl rfl hi ?_)
  refine ACode.cutR hΓ (α:=Outer) (fun ov=>[(2,.one (.sl 1 (to.map cI))),(1,.one (.sl 1 (frm.map cI))),(0,.one (.ptr (.o i) 0))]) (fun ov=>⟨0,[],ov⟩) (fun ov=>UpdL ou (obK (.mk i tk o n b ks a)) ov (obK (.mk i tk o N b ks a))) ?_ fun ov hU=>?_
  ·by_cases h0:o=0
   ·subst h0
    rw[if_pos rfl]at hN
    refine ACode.cond rfl (fun _=>?_) (fun hb=>absurd hb (by simp))
    repeat' first|refine zN ?_|((with_reducible refine oj ?_);first|refine zix ?_|refine zow rfl rfl hi ?_)
    refine zca hΓ (Qac hΓ frm hfl n) hou ?_
    obtain⟨J,hJ⟩:∃J,J=idxOf (n==·) frm:=⟨_,rfl⟩
    unfold rmI at hN
    rw[←hJ]at hN ⊢
    refine zA ?_
    refine ACode.cond rfl (fun hb=>?_) (fun hb=>?_)
    ·have hj0:0<=J:=by simpa using hb
     have hin:frm.any (n==·)=true:=by rw[←Q30,←hJ];simpa using hj0
     have hjl:=(Qdo hin).2
     rw[←hJ]at hjl
     obtain⟨j,rfl⟩:∃j:Nat,J=j:=⟨J.toNat,by omega⟩
     obtain⟨x,hx⟩:=Q00 (l:=to) (i:=j) (by omega)
     rw[if_pos hj0,Int.toNat_natCast,List.getD_eq_getElem?_getD,hx,Option.getD_some]at hN
     subst hN
     have hU1:=UpdL.nodeK (n':=N) (b':=b) hO hn hou0
     refine zA ?_
     refine zS (zIA rfl rfl rfl (by omega) (Q0a hx)) ?_
     refine zA ?_
     refine AOps.storeOwn tabOk rfl rfl rfl rfl rfl rfl rfl hi (by simp) ?_
     rw[Q2l]
     refine zM ?_
     exact cInv ⟨_,_root_.id,hU1,LessR.of rfl zFS (by simp) zLO rfl rfl hU1.ok⟩
    ·have hj0:¬0<=J:=by simpa using hb
     rw[if_neg hj0]at hN
     subst hN
     refine zM ?_
     exact cInv ⟨_,_root_.id,UpdL.refl hO hn hou0,LessR.of rfl zFS (by simp) zLO rfl rfl hou⟩
   ·rw[if_neg h0]at hN
    subst hN
    refine ACode.cond rfl (fun hb=>absurd hb (by simpa using h0)) (fun _=>?_)
    refine zM ?_
    exact cInv ⟨_,_root_.id,UpdL.refl hO hn hou0,LessR.of rfl zFS (by simp) zLO rfl rfl hou⟩
  have hov0:=hU.ok
  have hi2:ov i=some (nK tk o N b ks a):=(ownsK hU.own).1
  unfold nK at hi2
  repeat' first|refine zN ?_|((with_reducible refine oj ?_);first|refine zix ?_|refine zow rfl rfl hi2 ?_)
  have hX:rmT frm to (erK (.mk i tk o n b ks a))=.mk o N b (rmTs frm to (erKs ks)) a:=by simp only[erK,rmT,hN]
  rw[hX]
  refine ACode.loopR hΓ (α:=List LTk×Outer) (fun c=>[(34,.one (int c.1.length)),(33,.one (int (kK ks).length)),(32,.one (.sl 1 (kK ks))),(2,.one (.sl 1 (to.map cI))),(1,.one (.sl 1 (frm.map cI)))])
   (fun c=>⟨0,[],c.2⟩) (fun m c=>(c.1.length<=ks.length/\c.1.map LTk.id=(ks.take c.1.length).map LTk.id/\erKs c.1=rmTs frm to (erKs (ks.take c.1.length))/\UpdL ou (obK (.mk i tk o n b ks a)) c.2 (obK (.mk i tk o N b (c.1++ks.drop c.1.length) a)))/\m=ks.length - c.1.length) (a0:=([],ov)) (ρ:=_root_.id)
   ⟨⟨by simp,by simp,by simp[erKs,rmTs],hU⟩,rfl⟩ (LessR.of rfl ?_ (by simp) zLO rfl rfl hov0) fun m c hc=>?_
  ·refine .cons rfl (.ofEq rfl) (.cons rfl (.ofEq rfl) (.consP rfl (.one (.gsE rfl)) (by simp) ?_))
   (repeat' first | exact FrSub.nil | refine zfc ?_ | refine zfo ?_ | refine zfp ?_)
  obtain⟨ds,ow⟩:=c
  obtain⟨⟨hdl,hdi,hde,hV⟩,rfl⟩:=hc
  dsimp only at hdl hdi hde hV
  have how0:=hV.ok
  refine zA ?_
  refine ACode.cond rfl (fun hb=>?_) (fun hb=>?_)
  ·have hlt:ds.length < ks.length:=by simp[Q1s]at hb;omega
   obtain⟨t,ht⟩:=Q00 hlt
   have htm:=List.mem_of_getElem? ht
   have hsp:ks.drop ds.length=t::ks.drop (ds.length+1):=by
    rw[List.drop_eq_getElem_cons hlt]
    congr 1
    exact Option.some.inj ((List.getElem?_eq_getElem hlt).symm.trans ht)
   rw[hsp]at hV
   have hOt:Owns ow (obK t):=Q8e (ownsK hV.own).2.2 (by simp)
   have hnt:(keys (obK t)).Nodup:=Q4m hV.nd
   refine zA ?_
   refine zS (zIA rfl rfl rfl (by omega) (Q8p ht)) ?_
   refine zA ?_
   refine AOps.call1 hΓ rfl rfl rfl rfl rfl rfl rfl ⟨trivial,by simp,by simp,trivial⟩ how0 (ih t htm ow hOt hnt how0) fun r ou' hq _ how=>?_
   obtain⟨rfl,t',het,hid,hUt⟩:=hq
   have hU2:=hV.trans (UpdL.kidK hUt hid hV.own hV.nd)
   refine zM ?_
   refine cInv ⟨ks.length - (ds.length+1),(ds++[t'],ou'),_root_.id,by dsimp only;omega,⟨⟨by show (ds++[t']).length<=ks.length;rw[List.length_append,List.length_singleton];omega,?_,?_,?_⟩,by simp⟩,LessR.of rfl (by simp only[List.length_append,List.length_singleton];(repeat' first|exact FrSub.nil|refine zfc ?_|refine zfo ?_|refine zfp ?_)) (by simp) zLO rfl rfl how⟩
   ·simp only[List.length_append,List.length_singleton,List.map_append,List.map_cons,List.map_nil,hdi,hid,Q0n ht]
   ·simp only[List.length_append,List.length_singleton,Q0n ht,Q1g,Qim,hde]
    simp[erKs,rmTs,het]
   ·simp only[List.length_append,List.length_singleton,List.append_assoc,List.cons_append,List.nil_append]
    exact hU2
  have hdl2:ds.length=ks.length:=by simp[Q1s]at hb;omega
  rw[hdl2,List.drop_length,List.append_nil]at hV
  rw[hdl2,List.take_length]at hde
  refine zA ?_
  refine AFn.fin' rfl (WkF.ofEq rfl) (by simp[FV.ids,idsF]) how0 ⟨rfl,.mk i tk o N b ds a,?_,rfl,hV⟩
  simp only[erK,hde]
def gOf:LTk->Option (List Int×List LTk×LTk)
 |.mk i tk o n b ks a=>if o=5 then some (b,ks.take b.length,ks.getD b.length default)else if o=4/\(ks.getD 0 default).op=2 then some (b,ks.take 1,ks.getD 1 default)else none
def gNil:List AC:=[.lit (.pointer none),.lit (.slice none 0 0),.lit (.slice none 0 0),.lit (.pointer none)]
def gRes (t:LTk):FV:=match gOf t with
 |some (ids,fns,rest)=>.tup [.agg (gcO t.id rest.id ids fns),.one (.lit (.bool true))]
 |none=>.tup [.agg gNil,.one (.lit (.bool false))]
theorem Qc8(l:List LTk)(n:Nat):(kK l).take n=kK (l.take n):=by simp[kK,List.map_take]
theorem Qf1(t:LTk)(hG:TrG (erK t))(ou:Outer)(hO:Owns ou (obK t)):AFn Tryz.prog Γ 123 [.one (.ptr (.o t.id) 0)] ou (fun r ou'=>r=gRes t/\ou'=ou):=by
 obtain⟨i,tk,o,n,b,ks,a⟩:=t
 have hi:ou i=some (nK tk o n b ks a):=(ownsK hO).1
 unfold nK at hi
 have hsn:=Q24 hG.sh
 simp only[erK,Tr.op_mk,Tr.n_mk,Tr.binds_mk,Tr.kids_mk,Tr.alts_mk,Q0w]at hsn
 have hkl:ks.length<=1048576:=by have:=hG.kl;simp only[erK,Tr.kids_mk,Q0w]at this;exact this
 refine AFn.walk 73 tabOk Tryz.func123 rfl (by kernel_rfl) rfl rfl fun hou=>?_
 repeat' first|refine zN ?_|((with_reducible refine oj ?_);first|refine zix ?_|refine zow rfl rfl hi ?_)
 refine ACode.cond rfl (fun hb=>?_) (fun hb=>?_)
 ·have h5:o=5:=by simpa using hb
  subst h5
  have hk1:=hsn.recs.1
  obtain⟨r,hr⟩:=Q00 (l:=ks) (i:=b.length) (by omega)
  have hrd:ks.getD b.length default=r:=by rw[List.getD_eq_getElem?_getD,hr];rfl
  have hgr:(kK ks)[((b.map cI).length:Int).toNat]?=some [.ptr (.o r.id) 0]:=by rw[Int.toNat_natCast,List.length_map];exact Q8p hr
  refine zA ?_
  refine ACode.drawX tabOk 27 [(4,.one (.sl 1 (b.map cI))),(8,.one (.sl 1 (kK ks))),(12,.one (.sl 1 (b.map cI))),(14,.one (.sl 1 ((kK ks).take (b.map cI).length))),(18,.one (.sl 1 (kK ks))),(22,.one (.sl 1 (b.map cI))),(24,.one (.box [.ptr (.o r.id) 0]))] follows (by kernel_rfl) rfl rfl rfl rfl ?_ ?_
  ·refine .step rfl (zHP (zLD rfl rfl hi rfl)) ?_
   refine .step rfl (zHP (AStep.less (zLD rfl rfl hi rfl) (.one (.gsE rfl)))) ?_
   refine .step rfl (zHP (zLD rfl rfl hi rfl)) ?_
   refine .step rfl (zHP (AStep.sliceTo tabOk rfl rfl rfl rfl rfl rfl (by rw[Q1s,List.length_map];omega))) ?_
   refine .step rfl (zHP (AStep.less (zLD rfl rfl hi rfl) (.one (.gsE rfl)))) ?_
   refine .step rfl (zHP (zLD rfl rfl hi rfl)) ?_
   exact .step rfl (zHP (zIA rfl rfl rfl (by omega) hgr)) .nil
  refine zA ?_
  refine AFn.fin' rfl (WkF.ofEq rfl) (by simp[FV.ids,idsF,idsL,AC.ids,isO,Qc8]) hou ⟨?_,rfl⟩
  simp only[gRes,gOf,if_pos,hrd,gcO,List.length_map,Qc8]
  try rfl
 ·have h5:o≠5:=by simpa using hb
  by_cases h4:o=4
  ·subst h4
   obtain⟨hk2,hb1,_⟩:=hsn.lett
   obtain⟨k0,k1,rfl⟩:∃k0 k1,ks=[k0,k1]:=lst2 hk2
   obtain⟨i0,tk0,o0,n0,b0,ks0,a0⟩:=k0
   have h00:ou i0=some (nK tk0 o0 n0 b0 ks0 a0):=(ownsK (Q8e (ownsK hO).2.2 (t:=.mk i0 tk0 o0 n0 b0 ks0 a0) (by simp))).1
   unfold nK at h00
   have hg0:(kK [.mk i0 tk0 o0 n0 b0 ks0 a0,k1])[(0:Int).toNat]?=some [.ptr (.o i0) 0]:=rfl
   have hg1:(kK [.mk i0 tk0 o0 n0 b0 ks0 a0,k1])[(1:Int).toNat]?=some [.ptr (.o k1.id) 0]:=rfl
   repeat ((fail_if_success ((with_reducible refine oj ?_);refine AOps.atDst 44 rfl ?_));first|refine zO ?_|((with_reducible refine oj ?_);first|refine zix ?_|refine zow rfl rfl hi ?_))
   refine AOps.wk 43 rfl (y:=.one (.lit (.bool true))) (.ofEq rfl) ?_
   refine zM ?_
   repeat' first|refine zN ?_|((with_reducible refine oj ?_);first|refine zix ?_|refine zow rfl rfl hi ?_)
   refine zS (AStep.indexAddr tabOk rfl rfl rfl rfl rfl rfl (.inr ⟨_,rfl⟩) rfl (by decide) hg0) ?_
   repeat' first|refine zN ?_|((with_reducible refine oj ?_);first|refine zix ?_|refine zow rfl rfl h00 ?_)
   refine ACode.cond rfl (fun hb2=>?_) (fun hb2=>?_)
   ·have h2:o0=2:=by simpa using hb2
    subst h2
    refine zA ?_
    refine ACode.drawX tabOk 17 [(4,.one (.sl 1 (b.map cI))),(8,.one (.sl 1 (kK [.mk i0 tk0 2 n0 b0 ks0 a0,k1]))),(9,.one (.sl 1 ((kK [.mk i0 tk0 2 n0 b0 ks0 a0,k1]).take 1))),(13,.one (.sl 1 (kK [.mk i0 tk0 2 n0 b0 ks0 a0,k1]))),(14,.one (.box [.ptr (.o k1.id) 0]))] follows (by kernel_rfl) rfl rfl rfl rfl ?_ ?_
    ·refine .step rfl (zHP (zLD rfl rfl hi rfl)) ?_
     refine .step rfl (zHP (AStep.less (zLD rfl rfl hi rfl) (.one (.gsE rfl)))) ?_
     refine .step rfl (zHP (AStep.sliceTo (b:=1) tabOk rfl rfl rfl rfl rfl rfl (by simp[kK]))) ?_
     refine .step rfl (zHP (AStep.less (zLD rfl rfl hi rfl) (.one (.gsE rfl)))) ?_
     exact .step rfl (zHP (zIA rfl rfl rfl (by decide) hg1)) .nil
    refine zA ?_
    exact AFn.fin' rfl (WkF.ofEq rfl) (by simp[FV.ids,idsF,idsL,AC.ids,isO,Qc8]) hou ⟨rfl,rfl⟩
   ·have h2:o0≠2:=by simpa using hb2
    have hgo:gOf (.mk i tk 4 n b [.mk i0 tk0 o0 n0 b0 ks0 a0,k1] a)=none:=by simp[gOf,LTk.op,h2]
    refine zA ?_
    refine AFn.fin' rfl (WkF.ofEq rfl) (by simp[FV.ids,idsF,idsL,AC.ids,isO]) hou ⟨?_,rfl⟩
    unfold gRes
    rw[hgo]
    rfl
  ·have hgo:gOf (.mk i tk o n b ks a)=none:=by simp[gOf,h5,h4]
   repeat ((fail_if_success ((with_reducible refine oj ?_);refine AOps.atDst 44 rfl ?_));first|refine zO ?_|((with_reducible refine oj ?_);first|refine zix ?_|refine zow rfl rfl hi ?_))
   refine AOps.wk 43 rfl (y:=.one (.lit (.bool false))) (.ofEq (by simp[h4])) ?_
   refine zM ?_
   refine AFn.fin' rfl (WkF.ofEq rfl) (by simp[FV.ids,idsF,idsL,AC.ids,isO]) hou ⟨?_,rfl⟩
   unfold gRes
   rw[hgo]
   rfl
inductive LendL (σ:St):List AC->List AC->Prop
 |nil:LendL σ [] []
 |cons {c d:AC}{cs ds:List AC}(h:LendF σ (.one c) (.one d)) (k:LendL σ cs ds):LendL σ (c::cs) (d::ds)
theorem LendL.rv{σ:St}{cs ds:List AC}(h:LendL σ cs ds){F:Nat->Prop}{w:World}{C:Ctx}(hi:Inv Γ F w C σ):∀{us:List Value},RV w C cs us->RV w (C.still w) ds us:=by
 induction h with
 |nil=>intro us hr;simpa[RV]using hr
 |cons h k ih=>
  intro us hr
  simp only[RV]at hr ⊢
  obtain⟨u,vs,rfl,h1,h2⟩:=hr
  exact⟨u,vs,rfl,h _ _ _ _ _ hi h1,ih h2⟩
theorem LendL.rl{σ:St}{cs ds:List AC}(h:LendL σ cs ds){F:Nat->Prop}{w:World}{C:Ctx}(hi:Inv Γ F w C σ):∀{ad:Addr},RL w C cs ad->RL w (C.still w) ds ad:=by
 induction h with
 |nil=>intro ad hr;simp[RL]
 |cons h k ih=>
  intro ad hr
  simp only[RL]at hr ⊢
  obtain⟨⟨u,h1,h2,h3⟩,h4⟩:=hr
  exact⟨⟨u,h1,hi.stillChg.prot _ h2,h _ _ _ _ _ hi h3⟩,ih h4⟩
theorem LendF.agg{σ:St}{cs ds:List AC}(h:LendL σ cs ds):LendF σ (.agg cs) (.agg ds):=fun Γ F w C v hi hr=>by
 simp only[RF]at hr ⊢
 obtain⟨xs,h1,h2⟩:=hr
 exact⟨xs,h1,h.rv hi h2⟩
theorem LendF.box{σ:St}{cs ds:List AC}(h:LendL σ cs ds):LendF σ (.one (.box cs)) (.one (.box ds)):=fun Γ F w C v hi hr=>by
 simp only[RF,R]at hr ⊢
 obtain⟨ad,h1,h2,h3⟩:=hr
 exact⟨ad,h1,h2,h.rl hi h3⟩
theorem LendF.clo{σ:St}{f:Fn}{cs ds:List AC}(h:LendL σ cs ds):LendF σ (.one (.fn f [] cs)) (.one (.fn f [] ds)):=fun Γ F w C v hi hr=>by
 simp only[RF,R]at hr ⊢
 obtain⟨xs,ys,h1,h2,h3⟩:=hr
 exact⟨xs,ys,h1,by simpa[RV]using h2,h.rv hi h3⟩
theorem Q7b{l:List LTk}(h:(keys (obKs l)).Nodup):(keys (objss (lsLs l))).Nodup:=by
 obtain⟨r,hr⟩:=Q4o l
 exact (List.nodup_append.1 (hr.nodup_iff.1 h)).1
theorem Qgt{F:Nat->Prop}{w:World}{C:Ctx}{σ:St}{l:List LTk}(hi:Inv Γ F w C σ)(h:Owns σ.ou (obKs l)):Inv Γ F w C { σ with ou:=putU σ.ou (objss (lsLs l)) }:=by
 refine Qca hi rfl fun i o ho=>?_
 cases i with
 |l m=>exact .inl ho
 |o m=>
  have ho':putU σ.ou (objss (lsLs l)) m=some o:=ho
  unfold putU at ho'
  cases hl:lookO (objss (lsLs l)) m with
  |none=>rw[hl]at ho';exact .inl ho'
  |some q=>
   rw[hl]at ho'
   cases ho'
   obtain⟨tk,o1,n1,b1,k1,a1,e1,e2⟩:=Q5f l _ (Q6v hl)
   dsimp only at e1 e2
   have h2:=h _ e2
   exact .inr ⟨_,_,e1,h2,.cons (.refl _) (.cons (.refl _) (.cons (.refl _) (.cons (.gsE rfl) (.cons (.refl _) .nil))))⟩
theorem LendF.slK{σ:St}{l:List LTk}(h:Owns σ.ou (obKs l))(hn:(keys (obKs l)).Nodup):LendF σ (.one (.sl 1 (kK l))) (.one (.sl 1 (Q05 (erKs l)))):=by
 intro Γ F w C v hi hr
 simp only[RF,R]at hr ⊢
 obtain⟨a,cap,rfl,hc,h2⟩:=hr
 have hel:(Q05 (erKs l)).length=(kK l).length:=by rw[Q0q,Q1s];simp[Q0w]
 refine⟨a,cap,by rw[hel],by rw[hel];exact hc,?_⟩
 rcases h2 with h2|⟨ad,rfl,hs,h2⟩
 ·left
  have:l.length=0:=by rw[←Q1s,h2];rfl
  have:l=[]:=List.length_eq_zero_iff.1 this
  subst this;rfl
 ·refine .inr ⟨ad,rfl,hs,?_⟩
  have hi2:=Qgt hi h
  have:=Q5d hi2 hi2.stillChg (lsLs l) (Q6s (Q7b hn)) (fun k hk a ha=>?_) ad (by rw[Qc9];exact h2)
  ·rwa [Q5n]at this
  ·obtain⟨p,hp,rfl⟩:=List.mem_map.1 hk
   obtain⟨cs,hcs⟩:=Q3k _ p hp
   have hg:St.get { σ with ou:=putU σ.ou (objss (lsLs l)) } (.o p.1)=some (.cells cs):=by rw[←hcs];exact Q6s (Q7b hn) p hp
   obtain⟨_,_,_,b1,_⟩:=hi2.obj (.o p.1) _ hg
   show a.block < w.heap.size
   rw[ha]
   exact Q0b b1
theorem LendL.group{σ:St}{t rest:LTk}{ids:List Int}{fns:List LTk}(ht:Owns σ.ou (obK t))(hn:(keys (obK t)).Nodup)(hf:Owns σ.ou (obKs fns))(hfn:(keys (obKs fns)).Nodup)(hr:Owns σ.ou (obK rest))(hrn:(keys (obK rest)).Nodup):
  LendL σ (gcO t.id rest.id ids fns) (cG (erK t) ids (erKs fns) (erK rest)):=
 .cons (LendF.treeK ht hn) (.cons (LendF.refl (by simp[FV.ids,AC.ids])) (.cons (LendF.slK hf hfn) (.cons (LendF.treeK hr hrn) .nil)))
end Go.Proofs.YtmdkenkhaicbeaaGreatDoor
