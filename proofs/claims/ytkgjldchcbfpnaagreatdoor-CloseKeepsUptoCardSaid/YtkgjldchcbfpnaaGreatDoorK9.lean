/- PurityAbove, walked. -/
import Derived.Test.YtkgjldchcbfpnaaGreatDoorK8
set_option maxRecDepth 10000
set_option linter.unusedVariables false
set_option linter.unusedSimpArgs false
namespace Go.CoreX
end Go.CoreX
namespace Go.Proofs.YtkgjldchcbfpnaaGreatDoor
open Go Go.Abs Go.CoreX
variable {Γ:List (Nat×List AC)}
theorem W_ok(hΓ:∀g cs,(g,cs)∈Γ->idsL isO cs)(n:Int):APure Tryz.prog Γ 40 [.one (int n)] (.one (.box (cNd (.mk 1 n [] [] [])))):=by
 intro ou
 refine AFn.walk 5 tabOk Tryz.func40 rfl (by kernel_rfl) rfl rfl fun hou=>?_
 refine zA ?_
 refine AOps.callCW (ws:=[.one (int 1),.one (int n),.one (.sl 1 (Q36 []))]) hΓ (N_ok 1 n []) rfl rfl rfl rfl rfl rfl ?_ hou (by simp) ?_
 ·exact .cons (.refl _) (.cons (.refl _) (.cons (.one (.nilS 1)) .nil))
 refine zA ?_
 exact APure.fin rfl (WkF.ofEq rfl) (by simp) hou rfl
theorem Qn1(hΓ:∀g cs,(g,cs)∈Γ->idsL isO cs)(t:Tr):APure Tryz.prog Γ 60 [.one (.box (cNd t))] (.one (.box (cNd (.mk 8 7 [] [t] [])))):=by
 intro ou
 refine AFn.walk 6 tabOk Tryz.func60 rfl (by kernel_rfl) rfl rfl fun hou=>?_
 refine zA ?_
 refine AOps.callC hΓ (N_ok 8 7 [t]) rfl rfl rfl rfl rfl rfl (by rw[Q6j];rfl) hou (by simp) ?_
 refine zA ?_
 exact APure.fin rfl (WkF.ofEq rfl) (by simp) hou rfl
end Go.Proofs.YtkgjldchcbfpnaaGreatDoor
namespace Go.CoreX
abbrev Nb:=Option (Nat×Nat)
structure LAlt where
 tag:Int
 nb:Nb
 binds:List Int
def LAlt.er (a:LAlt):Alt:=⟨a.tag,a.binds⟩
inductive LTr where
 |mk (id:Nat) (op n:Int) (nb:Nb) (binds:List Int) (kids:List LTr) (alts:List LAlt)
instance:Inhabited LTr:=⟨.mk 0 0 0 none [] [] []⟩
def LTr.id:LTr->Nat|.mk i _ _ _ _ _ _=>i
mutual
def erT:LTr->Tr
 |.mk _ o n _ b k a=>.mk o n b (erTs k) (a.map LAlt.er)
def erTs:List LTr->List Tr
 |[]=>[]
 |t::ts=>erT t::erTs ts
end
theorem Qk6:∀l:List LTr,erTs l=l.map erT
 |[]=>rfl
 |t::l=>by simp[erTs,Qk6 l]
end Go.CoreX
namespace Go.Proofs.YtkgjldchcbfpnaaGreatDoor
open Go Go.Abs Go.CoreX
variable {Γ:List (Nat×List AC)}
def bC:Nb->List Int->AC
 |none,l=>.sl 1 (l.map cI)
 |some (a,cap),l=>.arr (.o a) 1 0 (l.map cI).length cap
def lAlt (x:LAlt):List AC:=[int x.tag,bC x.nb x.binds]
def kC (l:List LTr):List (List AC):=l.map fun t=>[.ptr (.o t.id) 0]
abbrev keys (l:List (Nat×AObj)):List Nat:=l.map (·.1)
def Owns (ou:Outer)(l:List (Nat×AObj)):Prop:=∀p∈l,ou p.1=some p.2
theorem Owns.app{ou:Outer}{l r:List (Nat×AObj)}:Owns ou (l++r)↔Owns ou l/\Owns ou r:=by
 unfold Owns
 constructor
 ·exact fun h=>⟨fun p hp=>h p (by simp[hp]),fun p hp=>h p (by simp[hp])⟩
 ·rintro⟨h1,h2⟩ p hp
  rcases List.mem_append.1 hp with hp|hp
  ·exact h1 p hp
  ·exact h2 p hp
theorem Owns.frame{ou ou':Outer}{l:List (Nat×AObj)}(h:Owns ou l)(hf:∀j∈keys l,ou' j=ou j):Owns ou' l:=fun p hp=>(hf p.1 (List.mem_map_of_mem hp)).trans (h p hp)
theorem Qju(p:Abs.Id->Prop)(hp:∀k,p (.o k))(nb:Nb)(l:List Int):(bC nb l).ids p:=by
 cases nb with
 |none=>simp[bC,AC.ids]
 |some x=>exact hp _
theorem ids_kC(p:Abs.Id->Prop)(hp:∀k,p (.o k))(l:List LTr):idsS p (kC l):=Q2f (f:=fun t:LTr=>[.ptr (.o t.id) 0]) (fun t=>by simp only[idsL,AC.ids,and_true];exact hp _) l
theorem Qcf(p:Abs.Id->Prop)(hp:∀k,p (.o k))(l:List LAlt):idsS p (l.map lAlt):=Q2f (f:=lAlt) (fun t=>by simp only[lAlt,idsL,AC.ids,and_true,true_and];exact Qju p hp _ _) l
end Go.Proofs.YtkgjldchcbfpnaaGreatDoor
namespace Go.CoreX
def frB (f:Int)(l:List Int):List Int:=(List.range l.length).map fun i:Nat=>f+i
def frN (m:Nm)(f:Int)(l:List Int):Nm:=putsN m l (frB f l)
end Go.CoreX
namespace Go.Proofs.YtkgjldchcbfpnaaGreatDoor
open Go Go.Abs Go.CoreX
variable {Γ:List (Nat×List AC)}
end Go.Proofs.YtkgjldchcbfpnaaGreatDoor
namespace Go.CoreX
def rnAs (nm:Nm)(f:Int):List LAlt->List LAlt×Nm×Int
 |[]=>([],nm,f)
 |x::l=>(⟨x.tag,x.nb,frB f x.binds⟩::(rnAs (frN nm f x.binds) (f+x.binds.length) l).1,(rnAs (frN nm f x.binds) (f+x.binds.length) l).2)
def ren1 (o:Int)(nm:Nm)(f:Int)(b:List Int):List Int×Nm×Int:=if o=9 then (b,nm,f)else (frB f b,frN nm f b,f+b.length)
mutual
def rnL (nm:Nm)(f:Int):LTr->LTr×Nm×Int
 |.mk i o n nb b k a=>
  let s1:=ren1 o nm f b
  let s2:=rnAs s1.2.1 s1.2.2 a
  let s3:=rnLs s2.2.1 s2.2.2 k
  (.mk i o (if o=0 then (nm n).getD n else n) nb s1.1 s3.1 s2.1,s3.2)
def rnLs (nm:Nm)(f:Int):List LTr->List LTr×Nm×Int
 |[]=>([],nm,f)
 |t::l=>((rnL nm f t).1::(rnLs (rnL nm f t).2.1 (rnL nm f t).2.2 l).1,(rnLs (rnL nm f t).2.1 (rnL nm f t).2.2 l).2)
end
def ownB (nb:Nb)(b:List Int):Prop:=nb=none->b=[]
mutual
def okL:LTr->Prop
 |.mk _ o _ nb b k a=>(o≠9->ownB nb b)/\b.length<=1048576/\k.length<=1048576/\a.length<=1048576/\(∀x∈a,ownB x.nb x.binds/\x.binds.length<=1048576)/\okLs k
def okLs:List LTr->Prop
 |[]=>True
 |t::l=>okL t/\okLs l
end
theorem Qfa:∀{l:List LTr},okLs l↔∀t∈l,okL t
 |[]=>by simp[okLs]
 |t::l=>by simp[okLs,Qfa (l:=l)]
end Go.CoreX
namespace Go.Proofs.YtkgjldchcbfpnaaGreatDoor
open Go Go.Abs Go.CoreX
variable {Γ:List (Nat×List AC)}
theorem Qb3(l r:List (Nat×AObj)):keys (l++r)=keys l++keys r:=by simp[keys]
theorem Q7s{ou:Outer}{k:Nat}{os:List AObj}(h:OuOk ou)(ho:∀o∈os,o.ids isO):OuOk (ouAdd ou k os):=by
 intro m o hm
 rcases Nat.lt_or_ge m k with h1|h1
 ·rw[Q18 h1]at hm;exact h m o hm
 ·obtain⟨p,rfl⟩:∃p,m=k+p:=⟨m - k,by omega⟩
  rw[Q1e]at hm
  exact ho o (List.mem_of_getElem? hm)
structure NewO (ou ou':Outer)(L:List (Nat×AObj)):Prop where
 own:Owns ou' L
 new:∀k∈keys L,ou k=none
 old:∀m,m∉keys L->ou' m=ou m
 ok:OuOk ou'
 nd:(keys L).Nodup
theorem NewO.nil{ou:Outer}(h:OuOk ou):NewO ou ou []:=⟨fun p hp=>by simp at hp,fun k hk=>by simp[keys]at hk,fun _ _=>rfl,h,by simp[keys]⟩
theorem NewO.trans{ou ou1 ou2:Outer}{L M:List (Nat×AObj)}(h:NewO ou ou1 L)(k:NewO ou1 ou2 M):NewO ou ou2 (L++M):=by
 have hLM:∀j∈keys L,j∉keys M:=fun j hj hm=>by
  have h1:=k.new j hm
  obtain⟨p,hp,rfl⟩:=List.mem_map.1 hj
  rw[h.own p hp]at h1
  cases h1
 refine⟨Owns.app.2 ⟨h.own.frame fun j hj=>k.old j (hLM j hj),k.own⟩,fun j hj=>?_,fun m hm=>?_,k.ok,?_⟩
 ·rw[Qb3,List.mem_append]at hj
  by_cases e:j∈keys L
  ·exact h.new j e
  ·rw[←h.old j e]
   exact k.new j (hj.resolve_left e)
 ·rw[Qb3,List.mem_append,not_or]at hm
  rw[k.old m hm.2,h.old m hm.1]
 ·rw[Qb3,List.nodup_append]
  exact⟨h.nd,k.nd,fun a ha b hb e=>hLM a ha (e▸hb)⟩
end Go.Proofs.YtkgjldchcbfpnaaGreatDoor
namespace Go.CoreX
end Go.CoreX
namespace Go.Proofs.YtkgjldchcbfpnaaGreatDoor
open Go Go.Abs Go.CoreX
structure LinkL (e:List Ex)(lts:List LTr)(B:Nb->List Int->Prop:=ownB):Prop where
 len:lts.length=e.length
 at_:∀(i:Nat) (x:Ex),e[i]?=some x->∃id nb a,lts[i]?=some (.mk id x.op x.n nb x.binds (x.kids.map fun q=>lts.getD q.toNat default) a)/\a.map LAlt.er=x.alts/\B nb x.binds/\∀y∈a,B y.nb y.binds
theorem LinkL.nil{B:Nb->List Int->Prop}:LinkL [] [] B:=⟨rfl,fun i x h=>by simp at h⟩
section
variable {e:List Ex}{lts:List LTr}{B:Nb->List Int->Prop}
theorem LinkL.getD(h:LinkL e lts B){i:Nat}{t:LTr}(ht:lts[i]?=some t):lts.getD i default=t:=by rw[List.getD_eq_getElem?_getD,ht];rfl
theorem LinkL.er(h:LinkL e lts B)(hk:Q1n e):∀(n i:Nat)(t:LTr),i < n->lts[i]?=some t->erT t=Qbv e i
 |0,i,t,hi,_=>by omega
 |n+1,i,t,hi,ht=>by
  have hil:i < e.length:=by rw[←h.len];exact (List.getElem?_eq_some_iff.1 ht).1
  obtain⟨x,hx⟩:=Q01 hil
  obtain⟨id,nb,a,h1,h2,_⟩:=h.at_ i x hx
  rw[ht]at h1
  cases h1
  rw[Q85 hk hx]
  simp only[erT,h2,Qk6,List.map_map]
  congr 1
  refine List.map_congr_left fun q hq=>?_
  have hq':=hk i x hx q hq
  obtain⟨t',ht'⟩:=Q01 (l:=lts) (i:=q.toNat) (by rw[h.len];omega)
  simp only[Function.comp,h.getD ht']
  exact h.er hk n q.toNat t' (by omega) ht'
theorem LinkL.ok(h:LinkL e lts)(hk:Q1n e)(hs:∀x∈e,x.binds.length<=1048576/\x.kids.length<=1048576/\x.alts.length<=1048576/\∀a∈x.alts,a.binds.length<=1048576):∀(n i:Nat)(t:LTr),i < n->lts[i]?=some t->okL t
 |0,i,t,hi,_=>by omega
 |n+1,i,t,hi,ht=>by
  have hil:i < e.length:=by rw[←h.len];exact (List.getElem?_eq_some_iff.1 ht).1
  obtain⟨x,hx⟩:=Q01 hil
  obtain⟨id,nb,a,h1,h2,h3,h4⟩:=h.at_ i x hx
  obtain⟨s1,s2,s3,s4⟩:=hs x (List.mem_of_getElem? hx)
  rw[ht]at h1
  cases h1
  refine⟨fun _=>h3,s1,by simpa using s2,by have:=congrArg List.length h2;simp at this;omega,fun y hy=>⟨h4 y hy,?_⟩,Qfa.2 fun u hu=>?_⟩
  ·exact s4 y.er (by rw[←h2];exact List.mem_map_of_mem hy)
  ·obtain⟨q,hq,rfl⟩:=List.mem_map.1 hu
   have hq':=hk i x hx q hq
   obtain⟨t',ht'⟩:=Q01 (l:=lts) (i:=q.toNat) (by rw[h.len];omega)
   rw[h.getD ht']
   exact h.ok hk hs n q.toNat t' (by omega) ht'
end
variable {Γ:List (Nat×List AC)}
def Qj0 (ts:List LTr)(n:Nat):List AC:=ts.map (fun t=>.ptr (.o t.id) 0)++List.replicate (n - ts.length) (.lit (.pointer none))
theorem Q9s(p:Abs.Id->Prop)(hp:∀k,p (.o k))(ts:List LTr)(n:Nat):idsL p (Qj0 ts n):=by
 refine Q7u ?_ (Qjn p _ _)
 induction ts with
 |nil=>trivial
 |cons t ts ih=>exact⟨hp _,ih⟩
@[simp] theorem ids_nodesL_l (k:Nat) (ts:List LTr) (n:Nat):idsL (inL k) (Qj0 ts n):=Q9s _ (fun _=>trivial) ts n
@[simp] theorem ids_nodesL_o (ts:List LTr) (n:Nat):idsL isO (Qj0 ts n):=Q9s _ (fun _=>trivial) ts n
@[simp] theorem ids_kC_l (k:Nat) (ts:List LTr):idsS (inL k) (kC ts):=ids_kC _ (fun _=>trivial) ts
@[simp] theorem Qm9 (ts:List LTr):idsS isO (kC ts):=ids_kC _ (fun _=>trivial) ts
@[simp] theorem ids_lAlts_l (k:Nat) (l:List LAlt):idsS (inL k) (l.map lAlt):=Qcf _ (fun _=>trivial) l
@[simp] theorem Qdw (l:List LAlt):idsS isO (l.map lAlt):=Qcf _ (fun _=>trivial) l
@[simp] theorem ids_bC_l (k:Nat) (nb:Nb) (l:List Int):(bC nb l).ids (inL k):=Qju _ (fun _=>trivial) nb l
@[simp] theorem ids_bC_o (nb:Nb) (l:List Int):(bC nb l).ids isO:=Qju _ (fun _=>trivial) nb l
@[simp] theorem ren_kC (ρ:Nat->Nat) (l:List LTr):renS ρ (kC l)=kC l:=Q1w ρ _ (Qm9 l)
@[simp] theorem ren_lAlts (ρ:Nat->Nat) (l:List LAlt):renS ρ (l.map lAlt)=l.map lAlt:=Q1w ρ _ (Qdw l)
@[simp] theorem ren_bC (ρ:Nat->Nat) (nb:Nb) (l:List Int):(bC nb l).ren ρ=bC nb l:=by cases nb <;> simp[bC,AC.ren,Abs.Id.ren]
theorem NewO.add{ou:Outer}{k:Nat}{o:AObj}(hk:∀m,k<=m->ou m=none)(hou:OuOk ou)(ho:o.ids isO):NewO ou (ouAdd ou k [o]) [(k,o)]:=by
 refine⟨fun p hp=>?_,fun j hj=>?_,fun m hm=>?_,Q7s hou fun q hq=>by simp at hq;subst hq;exact ho,by simp[keys]⟩
 ·simp at hp;subst hp
  exact Q1e 0
 ·simp[keys]at hj;subst hj;exact hk _ (Nat.le_refl _)
 ·simp[keys]at hm
  rcases Nat.lt_or_ge m k with h1|h1
  ·exact Q18 h1
  ·obtain⟨p,rfl⟩:∃p,m=k+p:=⟨m - k,by omega⟩
   rw[Q1e,hk _ h1]
   cases p with
   |zero=>simp at hm
   |succ p=>simp
end Go.Proofs.YtkgjldchcbfpnaaGreatDoor
namespace Go.CoreX
end Go.CoreX
namespace Go.Proofs.YtkgjldchcbfpnaaGreatDoor
open Go Go.Abs Go.CoreX
variable {Γ:List (Nat×List AC)}
end Go.Proofs.YtkgjldchcbfpnaaGreatDoor
namespace Go.CoreX
-- What holds of all nodes.
mutual
def allT (p:Lab->Prop):Tr->Prop
 |.mk o n b k a=>p ⟨o,n,b,k.map Tr.op,a⟩/\allTs p k
def allTs (p:Lab->Prop):List Tr->Prop
 |[]=>True
 |t::l=>allT p t/\allTs p l
end
theorem Q97{p:Lab->Prop}:∀{l:List Tr},allTs p l↔∀t∈l,allT p t
 |[]=>by simp[allTs]
 |t::l=>by simp[allTs,Q97 (l:=l)]
theorem Qko{e:List Ex}(hk:Q1n e){p:Lab->Prop}(h:∀x∈e,p (labE e x)):∀(n i:Nat),i < n->i < e.length->allT p (Qbv e i)
 |0,i,hi,_=>by omega
 |n+1,i,hi,hl=>by
  obtain⟨x,hx⟩:∃x,e[i]?=some x:=⟨e[i],List.getElem?_eq_getElem hl⟩
  rw[Q85 hk hx]
  refine⟨?_,Q97.2 fun t ht=>?_⟩
  ·have:=h x (List.mem_of_getElem? hx)
   simp only[labE]at this
   simp only[List.map_map]
   exact this
  ·obtain⟨q,hq,rfl⟩:=List.mem_map.1 ht
   have:=hk i x hx q hq
   exact Qko hk h n q.toNat (by omega) (by omega)
theorem Q50{e:List Ex}(h:IsTree e){p:Lab->Prop}(hp:∀x∈e,p (labE e x)):allT p (grow e):=by
 have:=List.length_pos_iff.2 h.ne
 exact Qko h.k hp _ (e.length - 1) (Nat.lt_succ_self _) (by omega)
end Go.CoreX
namespace Go.CoreX
structure ShN (o n:Int)(b:List Int)(k:Nat)(a:List Alt):Prop where
 sh:∃ops:List Int,ops.length=k/\shape ⟨o,n,b,ops,a⟩=true
section
variable {o n:Int}{b:List Int}{k:Nat}{a:List Alt}
theorem ShN.want(h:ShN o n b k a)(h7:¬(o=7∨o=13)):∃w:Int×Int×Bool,(∃ops:List Int,ops.length=k/\wants ⟨o,n,b,ops,a⟩=some w)/\(k:Int)=w.1/\(b.length:Int)=w.2.1/\a=[]:=by
 obtain⟨ops,hl,h⟩:=h.sh
 unfold shape at h
 rw[if_neg h7]at h
 split at h
 ·cases h
 ·rename_i kk bb u hw
  simp only[Bool.and_eq_true,beq_iff_eq,List.length_eq_zero_iff]at h
  exact⟨_,⟨ops,hl,hw⟩,by rw[←hl];exact h.1.1.1,h.1.1.2,h.1.2⟩
theorem ShN.lam(h:ShN 2 n b k a):k=1/\a=[]:=by
 obtain⟨w,⟨ops,hl,hw⟩,h1,h2,h3⟩:=h.want (by omega)
 cases hw;exact⟨by simp at h1;omega,h3⟩
theorem ShN.app(h:ShN 3 n b k a):1<=k/\b=[]/\a=[]:=by
 obtain⟨w,⟨ops,hl,hw⟩,h1,h2,h3⟩:=h.want (by omega)
 cases hw
 refine⟨?_,List.length_eq_zero_iff.1 (by simp at h2;simp[h2]),h3⟩
 simp only at h1;split at h1 <;> omega
theorem ShN.lett(h:ShN 4 n b k a):k=2/\b.length=1/\a=[]:=by
 obtain⟨w,⟨ops,hl,hw⟩,h1,h2,h3⟩:=h.want (by omega)
 cases hw;exact⟨by simp at h1;omega,by simp at h2;omega,h3⟩
theorem ShN.recs(h:ShN 5 n b k a):k=b.length+1/\1<=b.length/\a=[]:=by
 obtain⟨w,⟨ops,hl,hw⟩,h1,h2,h3⟩:=h.want (by omega)
 cases hw
 refine⟨by simp at h1;omega,?_,h3⟩
 simp only at h2;split at h2 <;> omega
theorem ShN.prim(h:ShN 8 n b k a):0<=n/\n<=11/\(k:Int)=Q3m.getD n.toNat 0/\b=[]/\a=[]:=by
 obtain⟨w,⟨ops,hl,hw⟩,h1,h2,h3⟩:=h.want (by omega)
 have hw:(if between n 0 11=true then some (Q3m.getD n.toNat 0,(0:Int),true)else none)=some w:=hw
 split at hw
 ·rename_i hb
  cases hw
  simp[between]at hb
  exact⟨hb.1,hb.2,h1,List.length_eq_zero_iff.1 (by simp at h2;simp[h2]),h3⟩
 ·cases hw
theorem ShN.row(h:ShN 9 n b k a):k=b.length/\a=[]:=by
 obtain⟨w,⟨ops,hl,hw⟩,h1,h2,h3⟩:=h.want (by omega)
 cases hw;exact⟨by simp at h1;omega,h3⟩
theorem ShN.one(h:ShN o n b k a)(ho:o=10∨o=12∨o=16):k=1/\b=[]/\a=[]:=by
 obtain⟨w,⟨ops,hl,hw⟩,h1,h2,h3⟩:=h.want (by omega)
 rcases ho with rfl|rfl|rfl <;> (cases hw;exact⟨by simp at h1;omega,List.length_eq_zero_iff.1 (by simp at h2;simp[h2]),h3⟩)
theorem ShN.two(h:ShN 11 n b k a):k=2/\b=[]/\a=[]:=by
 obtain⟨w,⟨ops,hl,hw⟩,h1,h2,h3⟩:=h.want (by omega)
 cases hw;exact⟨by simp at h1;omega,List.length_eq_zero_iff.1 (by simp at h2;simp[h2]),h3⟩
theorem ShN.alts7(h:ShN o n b k a)(ho:o=7∨o=13):k=1+a.length/\b=[]/\(o=13->1<=a.length)/\∀i x,a[i]?=some x->Q4k ⟨o,n,b,[],a⟩ i x=false:=by
 obtain⟨ops,hl,h⟩:=h.sh
 unfold shape at h
 rw[if_pos ho]at h
 simp only[Bool.and_eq_true,beq_iff_eq,List.length_eq_zero_iff]at h
 obtain⟨⟨h1,h2⟩,h3⟩:=h
 unfold Q7m at h1
 simp only[Bool.and_eq_true,Bool.not_eq_true',beq_iff_eq,Bool.or_eq_true,decide_eq_true_eq]at h1
 obtain⟨h4,h5,h6⟩:=h1
 refine⟨by omega,h2,fun h13=>?_,fun i x hx=>?_⟩
 ·rcases h6 with h6|h6
  ·subst h13;cases h6
  ·omega
 ·rw[List.any_eq_false]at h4
  have:=h4 (x,i) (by rw[List.mk_mem_zipIdx_iff_getElem?];exact hx)
  simpa[Q4k]using this
theorem ShN.case(h:ShN 7 n b k a):k=1+a.length/\b=[]:=⟨(h.alts7 (.inl rfl)).1,(h.alts7 (.inl rfl)).2.1⟩
theorem ShN.handle(h:ShN 13 n b k a):k=1+a.length/\b=[]/\1<=a.length/\∀i x,a[i]?=some x->(i=0↔x.tag=-1)/\x.binds.length=if i=0 then 1 else 2:=by
 obtain⟨h1,h2,h3,h4⟩:=h.alts7 (.inr rfl)
 refine⟨h1,h2,h3 rfl,fun i x hx=>?_⟩
 have:=h4 i x hx
 simp only[Q4k,Bool.or_eq_false_iff,Bool.and_eq_false_iff,Bool.not_eq_false',beq_iff_eq,beq_eq_false_iff_ne]at this
 obtain⟨_,h5,h6⟩:=this
 refine⟨?_,?_⟩
 ·rcases h5 with h5|h5
  ·exact absurd rfl h5
  ·by_cases hi:i=0
   ·subst hi;simpa using h5
   ·have:((i:Int)==0)=false:=by simp[hi]
    rw[this]at h5
    simp[hi]at h5 ⊢;exact h5
 ·rcases h6 with h6|h6
  ·exact absurd rfl h6
  ·split at h6
   ·rw[if_neg (by omega)];omega
   ·rename_i hh
    have:i=0∨i=1:=by omega
    rcases this with rfl|rfl <;> simp <;> omega
theorem ShN.noAlts(h:ShN o n b k a)(h7:¬(o=7∨o=13)):a=[]:=(h.want h7).choose_spec.2.2.2
theorem ShN.leaf(h:ShN o n b k a)(ho:o=0∨o=1∨o=17):k=0/\b=[]/\a=[]:=by
 obtain⟨w,⟨ops,hl,hw⟩,h1,h2,h3⟩:=h.want (by omega)
 rcases ho with rfl|rfl|rfl <;> (cases hw;exact⟨by simp at h1;omega,List.length_eq_zero_iff.1 (by simp at h2;simp[h2]),h3⟩)
end
def shpQ (l:Lab):Prop:=ShN l.op l.n l.binds l.ops.length l.alts
theorem Qc0{t:Tr}(h:allT shpQ t):ShN t.op t.n t.binds t.kids.length t.alts:=by
 cases t with
 |mk o n b k a=>simpa[shpQ]using h.1
theorem Q5g{p:Lab->Prop}{t s:Tr}(h:allT p t)(hs:s∈t.kids):allT p s:=by
 cases t with
 |mk o n b k a=>exact Q97.1 h.2 s hs
theorem Q2w{p:Lab->Prop}{t:Tr}(h:allT p t){i:Nat}(hi:i < t.kids.length):allT p (t.kids.getD i default):=by
 rw[List.getD_eq_getElem?_getD,List.getElem?_eq_getElem hi]
 exact Q5g h (List.getElem_mem hi)
theorem Q10{p:Lab->Prop}{t:Tr}(h:allT p t):p ⟨t.op,t.n,t.binds,t.kids.map Tr.op,t.alts⟩:=by
 cases t with
 |mk o n b k a=>exact h.1
mutual
theorem Q81{p q:Lab->Prop}(h:∀l,p l->q l):∀t:Tr,allT p t->allT q t
 |.mk o n b k a,ht=>⟨h _ ht.1,Qd5 h k ht.2⟩
theorem Qd5{p q:Lab->Prop}(h:∀l,p l->q l):∀l:List Tr,allTs p l->allTs q l
 |[],_=>trivial
 |t::l,ht=>⟨Q81 h t ht.1,Qd5 h l ht.2⟩
end
end Go.CoreX
namespace Go.CoreX
def cntB (k:Int)(l:Lab):Int:=((Q09 l.op l.binds l.alts).count k:Nat)
-- Names that a tree does not bind keep their new names.
mutual
def bndT:Tr->List Int
 |.mk o _ b k a=>Q09 o b a++bndTs k
def bndTs:List Tr->List Int
 |[]=>[]
 |t::l=>bndT t++bndTs l
end
end Go.CoreX
namespace Go.CoreX
def tl (a:Alt):Int×Nat:=(a.tag,a.binds.length)
end Go.CoreX
namespace Go.CoreX
theorem sum0{α:Type}{f:α->Int}:∀{l:List α},(∀x∈l,0<=f x)->(l.map f).sum=0->∀x∈l,f x=0
 | [], _, _, x, hx => by simp at hx
 |y::l,h,hs,x,hx=>by
  have h1:=h y (by simp)
  have h2:∀z∈l,0<=f z:=fun z hz=>h z (by simp[hz])
  have h3:0<=(l.map f).sum:=by
   clear h h1 hs hx
   induction l with
   |nil=>simp
   |cons z l ih=>
    have:=h2 z (by simp)
    have:=ih fun y hy=>h2 y (by simp[hy])
    simp only[List.map_cons,List.sum_cons];omega
  simp only[List.map_cons,List.sum_cons]at hs
  rcases List.mem_cons.1 hx with rfl|hx
  ·omega
  ·exact sum0 h2 (by omega) x hx
open Classical in
mutual
theorem Qhx{p:Lab->Prop}:∀t:Tr,allT p t->sumT (fun l=>if p l then 0 else 1) t=0
 |.mk o n b k a,h=>by
  simp only[sumT,Qep k h.2]
  rw[if_pos h.1];rfl
theorem Qep{p:Lab->Prop}:∀l:List Tr,allTs p l->sumTs (fun l=>if p l then 0 else 1) l=0
 |[],_=>rfl
 |t::l,h=>by simp only[sumTs,Qhx t h.1,Qep l h.2];rfl
end
open Classical in
theorem Qkn{p:Lab->Prop}{g:List Ex}(h:IsTree g)(ha:allT p (grow g)):∀l∈labs g,p l:=by
 have h1:=Q7p (fun l=>if p l then (0:Int)else 1) h
 rw[Qhx _ ha]at h1
 intro l hl
 have:=sum0 (fun x _=>by split <;> omega) h1 l hl
 split at this
 ·assumption
 ·cases this
theorem Q2j{e:List Ex}(h:check e=0):Q23 e=0/\(∀x∈e,Q0r false e x=0)/\(Q0c e).Nodup/\occT [] (grow e)=[]:=by
 unfold check body at h
 by_cases h1:Q23 e=0
 ·rw [if_neg (by simpa using h1)] at h
  by_cases h2:Q1u (Q0r false e) e=0
  ·rw[if_neg (by simpa using h2)]at h
   by_cases h3:Q6f ([]++Q0c e)=true
   ·rw[if_pos h3]at h;cases h
   ·rw[if_neg h3]at h
    have h3':=(Q3q _).1 (by simpa using h3)
    refine⟨h1,(Q21 _ _).1 h2,by simpa using h3',?_⟩
    by_cases h4:(Q0e (grow e)).all (fun n=>([]:List Int).contains n)=true
    ·have h5:Q0e (grow e)=[]:=by
      cases hf:Q0e (grow e) with
      |nil=>rfl
      |cons n l=>rw[hf]at h4;simp at h4
     unfold Q0e at h5
     cases ho:occT [] (grow e) with
     |nil=>rfl
     |cons n l=>
      have:=(Q4n n (n::l)).2 (by simp)
      rw[←ho,h5]at this
      simp at this
    ·rw[if_neg h4]at h;cases h
  ·rw[if_pos (by simpa using h2)]at h;exact absurd h h2
 ·rw[if_pos h1]at h;exact absurd h h1
mutual
theorem Qd0(k:Int):∀t:Tr,(((bndT t).count k:Nat):Int)=sumT (cntB k) t
 |.mk o n b ks a=>by
  simp only[bndT,sumT,cntB,List.count_append,←Qa8 k ks];push_cast;rfl
theorem Qa8(k:Int):∀l:List Tr,(((bndTs l).count k:Nat):Int)=sumTs (cntB k) l
 |[]=>rfl
 |t::l=>by simp only[bndTs,sumTs,List.count_append,←Qd0 k t,←Qa8 k l];push_cast;rfl
end
theorem Qkk{e:List Ex}(h:check e=0):(bndT (grow e)).Nodup:=by
 obtain⟨_,_,h3,_⟩:=Q2j h
 have t1:=Q1a h
 rw[List.nodup_iff_count]at h3 ⊢
 intro k
 have h4:=h3 k
 have h5:=Qd0 k (grow e)
 rw[←Q7p _ t1]at h5
 have h6:(((Q0c e).count k:Nat):Int)=((labs e).map (cntB k)).sum:=by rw[Q98,Qa3];rfl
 omega
end Go.CoreX
namespace Go.Proofs.YtkgjldchcbfpnaaGreatDoor
open Go Go.Abs Go.CoreX
variable {Γ:List (Nat×List AC)}
end Go.Proofs.YtkgjldchcbfpnaaGreatDoor
namespace Go.CoreX
structure pOk (l:Lab):Prop where
 b:l.binds.length<=1048576
 k:l.ops.length<=1048576
 a:l.alts.length<=1048576
 ab:∀x∈l.alts,x.binds.length<=1048576
 s:l.binds.length+(l.alts.flatMap (·.binds)).length<=4194304
-- Two lists in order, with the same members, are one list.
end Go.CoreX
namespace Go.Proofs.YtkgjldchcbfpnaaGreatDoor
open Go Go.Abs Go.CoreX
theorem Qgv{g:List Ex}(hl:g.length<=1048576)(h:∀l∈labs g,pOk l):okB g:=by
 refine⟨⟨hl,fun x hx=>?_⟩,fun x hx=>?_⟩
 ·have:=h _ (List.mem_map_of_mem (f:=labE g) hx)
  exact⟨this.b,by simpa[labE]using this.k,this.a,this.ab⟩
 ·exact (h _ (List.mem_map_of_mem (f:=labE g) hx)).s
end Go.Proofs.YtkgjldchcbfpnaaGreatDoor
namespace Go.CoreX
end Go.CoreX
namespace Go.CoreX
mutual
theorem Qdq:∀t:Tr,okT t->allT pOk t
 |.mk o n b k a,h=>⟨⟨h.1,by simpa using h.2.1,h.2.2.1,h.2.2.2.1.1,h.2.2.2.1.2⟩,Qf7 k h.2.2.2.2⟩
theorem Qf7:∀l:List Tr,okTs l->allTs pOk l
 |[],_=>trivial
 |t::l,h=>⟨Qdq t h.1,Qf7 l h.2⟩
end
end Go.CoreX
namespace Go.Proofs.YtkgjldchcbfpnaaGreatDoor
open Go Go.Abs Go.CoreX
theorem Qfb{T:Tr}(h:allT pOk T)(hl:cntN T<=1048576):okB (listT [] T):=Qgv (by have:=Q2c T [];simp at this;omega) (Qkn (Q8m _) (by rw[Q6g];exact h))
end Go.Proofs.YtkgjldchcbfpnaaGreatDoor
namespace Go.CoreX
mutual
inductive Vl where
 |nil
 |word (n:Int)
 |clo (t:Tr) (e:En)
 |obj (tag:Int) (fs:List Vl)
 |row (ls:List Int) (fs:List Vl)
 |arr (a:Nat)
 |res (fs:List Fm)
 |cap (fn:Int) (slots:List Vl)
inductive En where
 |nil
 |bind (id:Int) (v:Vl) (next:En)
 |recs (t:Tr) (next:En)
inductive Fm where
 |mk (t:Tr) (e:En) (done:List Vl)
end
instance:Inhabited Vl:=⟨.nil⟩
instance:Inhabited Fm:=⟨.mk default .nil []⟩
def Fm.t:Fm->Tr|.mk t _ _=>t
def Fm.e:Fm->En|.mk _ e _=>e
def Fm.done:Fm->List Vl|.mk _ _ d=>d
@[simp] theorem Fm.t_mk (t e d):(Fm.mk t e d).t=t:=rfl
@[simp] theorem Fm.e_mk (t e d):(Fm.mk t e d).e=e:=rfl
@[simp] theorem Fm.done_mk (t e d):(Fm.mk t e d).done=d:=rfl

def Q11 (l:List Int)(id:Int):Nat->Option Nat
 |0=>none
 |i+1=>if l.getD i 0=id then some i else Q11 l id i
def findE (id:Int):En->Vl
 |.nil=>.nil
 |.bind i v n=>if i=id then v else findE id n
 |.recs t n=>match Q11 t.binds id t.binds.length with
  |some i=>.clo (t.kids.getD i default) (.recs t n)
  |none=>findE id n
def allE (e:En):List Int->List Vl->En
 |id::ids,l=>allE (.bind id (l.headD .nil) e) ids l.tail
 |[],_=>e

inductive Ctl where
 |ev (t:Tr) (e:En)
 |rt (v:Vl)
structure Ms where
 c:Ctl
 k:List Fm
 out:List Int
 steps:Int
 heap:List (List Vl)
structure Fun where
 params:List Int
 body:Tr

def condV (b:Bool):Vl:=.obj (if b then 1 else 0) []
def wrapW (n:Int):Int:=(n+1073741824) % 2147483648 - 1073741824
def wordV:Vl->Except Int Int
 |.word n=>.ok n
 |_=>.error 5
def Q8l (h:List (List Vl)):Vl->Except Int (Nat×List Vl)
 |.arr a=>.ok (a,h.getD a [])
 |_=>.error 5
def rowsV:Vl->Except Int (List Int×List Vl)
 |.row ls fs=>.ok (ls,fs)
 |_=>.error 5

def bsGo (l:List Int)(x:Int):Nat->Nat->Nat->Nat
 |0,i,_=>i
 |g+1,i,j=>if i < j then (if l.getD ((i+j) / 2) 0 < x then bsGo l x g ((i+j) / 2+1) j else bsGo l x g i ((i+j) / 2))else i
def bsAt (l:List Int)(x:Int):Nat:=bsGo l x l.length 0 l.length
def bsIs (l:List Int)(x:Int):Bool:=decide (bsAt l x < l.length)&&l.getD (bsAt l x) 0==x

def Q3r (fu:Int)(m:Ms)(many:Int)(v:Vl):Except Int (Ms×Vl):=
 if many < 0∨1024 < many then .error 6 else if fu - m.steps < many then .error (-1) else
 .ok ({ m with steps:=m.steps+many,heap:=m.heap++[List.replicate many.toNat v] },.arr m.heap.length)
def Q33 (m:Ms)(n:Int)(l:List Vl):Except Int (Ms×Vl):=do
 let (a,its) ←Q8l m.heap (l.getD 0 .nil)
 if n=9 then return (m,.word its.length)
 let i ←wordV (l.getD 1 .nil)
 if i < 0∨(its.length:Int)<=i then .error 2
 else if n=10 then return (m,its.getD i.toNat .nil)
 else return ({ m with heap:=m.heap.set a (its.set i.toNat (l.getD 2 .nil)) },.obj 0 [])
def primM (fu:Int)(m:Ms)(n:Int)(l:List Vl):Except Int (Ms×Vl):=
 if n=0 then do return (m,.word (wrapW ((←wordV (l.getD 0 .nil))+(←wordV (l.getD 1 .nil))))) else
 if n=1 then do return (m,.word (wrapW ((←wordV (l.getD 0 .nil)) - (←wordV (l.getD 1 .nil))))) else
 if n=2 then do return (m,.word (wrapW ((←wordV (l.getD 0 .nil)) * (←wordV (l.getD 1 .nil))))) else
 if n=3 then do
  let a ←wordV (l.getD 0 .nil)
  let b ←wordV (l.getD 1 .nil)
  if b=0 then .error 1 else return (m,.word (wrapW (a.tdiv b))) else
 if n=4 then do
  let a ←wordV (l.getD 0 .nil)
  let b ←wordV (l.getD 1 .nil)
  if b=0 then .error 1 else return (m,.word (a.tmod b)) else
 if n=5 then do return (m,condV (decide ((←wordV (l.getD 0 .nil)) < (←wordV (l.getD 1 .nil))))) else
 if n=6 then do return (m,condV (decide ((←wordV (l.getD 0 .nil))=(←wordV (l.getD 1 .nil))))) else
 if n=7 then do
  let a ←wordV (l.getD 0 .nil)
  if m.out.length=1000 then .error 6 else return ({ m with out:=m.out++[a] },.obj 0 []) else
 if n=8 then do
  let a ←wordV (l.getD 0 .nil)
  Q3r fu m a (l.getD 1 .nil) else
 Q33 m n l
def withR (ls:List Int)(fs:List Vl)(n:Int)(v:Vl):Vl:=
 if bsIs ls n then .row ls (fs.set (bsAt ls n) v)
 else .row (ls.take (bsAt ls n)++n::ls.drop (bsAt ls n)) (fs.take (bsAt ls n)++v::fs.drop (bsAt ls n))
def Q17 (fu:Int)(m:Ms)(t:Tr)(l:List Vl):Except Int (Ms×Vl):=
 if t.op=6 then .ok (m,.obj t.n l) else
 if t.op=8 then primM fu m t.n l else
 if t.op=9 then .ok (m,.row t.binds l) else
 if t.op=10 then do
  let (ls,fs) ←rowsV (l.getD 0 .nil)
  if bsIs ls t.n then return (m,fs.getD (bsAt ls t.n) .nil)else .error 3
 else do
  let (ls,fs) ←rowsV (l.getD 0 .nil)
  return (m,withR ls fs t.n (l.getD 1 .nil))
def opdN (t:Tr):Nat:=if t.op=4∨t.op=7∨t.op=13∨t.op=12 then 1 else t.kids.length
def Q16 (tag:Int)(fs:List Vl)(e:En)(kids:List Tr):Nat->List Alt->Except Int Ctl
 |_,[]=>.error 3
 |i,a::al=>if a.tag=tag then (if a.binds.length=fs.length then .ok (.ev (kids.getD (1+i) default) (allE e a.binds fs))else .error 5)
  else if a.tag=-1 then .ok (.ev (kids.getD (1+i) default) e)else Q16 tag fs e kids (i+1) al
def Q2v (m:Ms)(t:Tr)(e:En)(v:Vl):Except Int Ms:=
 match v with
 |.obj tag fs=>(Q16 tag fs e t.kids 0 t.alts).map fun c=>{ m with c:=c }
 |_=>.error 5
def callM (fns:List Fun)(m:Ms)(f:Vl)(args:List Vl):Except Int Ms:=
 match f with
 |.clo t e=>if t.binds.length=args.length then .ok { m with c:=.ev (t.kids.getD 0 default) (allE e t.binds args) }else .error 5
 |.cap n slots=>if (fns.getD n.toNat ⟨[],default⟩).params.length=args.length+1 then .ok { m with c:=.ev (fns.getD n.toNat ⟨[],default⟩).body (allE .nil (fns.getD n.toNat ⟨[],default⟩).params (.cap n slots::args)) }else .error 5
 |.res fs=>match args with
  |[a]=>.ok { m with c:=.rt a,k:=fs++m.k }
  |_=>.error 5
 |_=>.error 5
def Q80 (op:Int):Nat->List Alt->Option Nat
 |_,[]=>none
 |i,a::al=>if a.tag=op/\0 < i then some i else Q80 op (i+1) al
def Q3a (m:Ms)(op:Int)(v:Vl):List Fm->List Fm->Except Int Ms
 |_,[]=>.error 4
 |l,f::k=>match (if f.t.op=13 then Q80 op 0 f.t.alts else none) with
  |some i=>.ok { m with c:=.ev (f.t.kids.getD (1+i) default) (.bind ((f.t.alts.getD i ⟨0,[]⟩).binds.getD 1 0) (.res (l++[f])) (.bind ((f.t.alts.getD i ⟨0,[]⟩).binds.getD 0 0) v f.e)),k:=k }
  |none=>Q3a m op v (l++[f]) k
def kidM (fu:Int)(fns:List Fun)(m:Ms)(f:Fm)(k:List Fm):Except Int Ms:=
 if f.done.length < opdN f.t then .ok { m with c:=.ev (f.t.kids.getD f.done.length default) f.e,k:=f::k } else
 if f.t.op=4 then .ok { m with c:=.ev (f.t.kids.getD 1 default) (.bind (f.t.binds.getD 0 0) (f.done.getD 0 .nil) f.e),k:=k } else
 if f.t.op=7 then Q2v { m with k:=k } f.t f.e (f.done.getD 0 .nil) else
 if f.t.op=3 then callM fns { m with k:=k } (f.done.getD 0 .nil) (f.done.drop 1) else
 if f.t.op=13 then .ok { m with c:=.ev (f.t.kids.getD 1 default) (.bind ((f.t.alts.getD 0 ⟨0,[]⟩).binds.getD 0 0) (f.done.getD 0 .nil) f.e),k:=k } else
 if f.t.op=12 then Q3a m f.t.n (f.done.getD 0 .nil) [] k else
 if f.t.op=14 then .ok { m with c:=.ev (fns.getD f.t.n.toNat ⟨[],default⟩).body (allE .nil (fns.getD f.t.n.toNat ⟨[],default⟩).params f.done),k:=k } else
 if f.t.op=15 then .ok { m with c:=.rt (.cap f.t.n f.done),k:=k } else
 if f.t.op=16 then (match f.done.getD 0 .nil with
  |.cap _ slots=>if f.t.n < slots.length then .ok { m with c:=.rt (slots.getD f.t.n.toNat .nil),k:=k }else .error 5
  |_=>.error 5) else
 (Q17 fu { m with k:=k } f.t f.done).map fun (m',v)=>{ m' with c:=.rt v }
def Q0l (fu:Int)(fns:List Fun)(m:Ms)(t:Tr)(e:En):Except Int Ms:=
 if t.op=0 then .ok { m with c:=.rt (findE t.n e) } else
 if t.op=1 then .ok { m with c:=.rt (.word t.n) } else
 if t.op=2 then .ok { m with c:=.rt (.clo t e) } else
 if t.op=17 then .error t.n else
 if t.op=5 then .ok { m with c:=.ev (t.kids.getD t.binds.length default) (.recs t e) } else
 kidM fu fns m (.mk t e []) m.k
inductive Rd where
 |next (m:Ms)
 |done (m:Ms) (v:Vl)
 |fuel
 |trap (code:Int) (m:Ms)
def Q0i (fu:Int)(fns:List Fun)(m:Ms):Rd:=
 match m.c with
 |.rt v=>match m.k with
  |[]=>.done m v
  |f::k=>match kidM fu fns m (.mk f.t f.e (f.done++[v])) k with
   |.ok m'=>.next m'
   |.error c=>.trap c m
 |.ev t e=>if m.steps=fu then .fuel else
  match Q0l fu fns { m with steps:=m.steps+1 } t e with
  |.ok m'=>.next m'
  |.error c=>.trap c { m with steps:=m.steps+1 }
structure Rs where
 out:List Int
 fin:Int
 val:Int
 steps:Int
 err:Int
 deriving DecidableEq
def lastV:Vl->Int
 |.word n=>n
 |.obj t _=>t
 |_=>0
def Q2a:Rs:=⟨[],0,0,0,13⟩
def goM (fu:Int)(fns:List Fun):Nat->Ms->Option Rs
 |0,_=>none
 |g+1,m=>match Q0i fu fns m with
  |.next m'=>goM fu fns g m'
  |.done m v=>some ⟨m.out,0,lastV v,m.steps,0⟩
  |.fuel=>some Q2a
  |.trap c m=>some (if c < 0 then Q2a else ⟨m.out,c,0,m.steps,0⟩)
end Go.CoreX
namespace Go.CoreX
inductive Rn (fu:Int)(fns:List Fun):Nat->Ms->Ms->Prop
 |zero (m:Ms):Rn fu fns 0 m m
 |succ {n:Nat}{m m1 m':Ms}(h:Q0i fu fns m=.next m1) (k:Rn fu fns n m1 m'):Rn fu fns (n+1) m m'
section
variable {fu:Int}{fns:List Fun}
theorem Rn.trans{n n':Nat}{m m1 m2:Ms}(a:Rn fu fns n m m1)(b:Rn fu fns n' m1 m2):Rn fu fns (n'+n) m m2:=by
 induction a with
 |zero m=>exact b
 |succ h k ih=>exact .succ h (ih b)
theorem Rn.go{n:Nat}{m m':Ms}(a:Rn fu fns n m m')(g:Nat):goM fu fns (g+n) m=goM fu fns g m':=by
 induction a with
 |zero m=>rfl
 |succ h k ih=>
  rw[←Nat.add_assoc,goM,h]
  exact ih
def Rs' (fu:Int)(fns:List Fun)(m m':Ms):Prop:=∃n,Rn fu fns n m m'
theorem Rs'.trans{m m1 m2:Ms}(a:Rs' fu fns m m1)(b:Rs' fu fns m1 m2):Rs' fu fns m m2:=by
 obtain⟨n,a⟩:=a;obtain⟨k,b⟩:=b;exact⟨_,a.trans b⟩
theorem Rs'.one{m m1 m2:Ms}(h:Q0i fu fns m=.next m1)(b:Rs' fu fns m1 m2):Rs' fu fns m m2:=by
 obtain⟨k,b⟩:=b;exact⟨_,.succ h b⟩
end
end Go.CoreX
namespace Go.CoreX
section
variable {fu:Int}{fns:List Fun}
def tV (n:Int):Tr:=.mk 0 n [] [] []
def tW (n:Int):Tr:=.mk 1 n [] [] []
def loopB:Tr:=.mk 7 0 [] [.mk 8 5 [] [tV 2,tW 1] [],tW 0,.mk 8 0 [] [tV 2,.mk 3 0 [] [tV 1,.mk 8 1 [] [tV 2,tW 1] []] []] []] [⟨1,[]⟩,⟨-1,[]⟩]
def loopF:Tr:=.mk 2 0 [2] [loopB] []
def loopT (n:Int):Tr:=.mk 5 0 [1] [loopF,.mk 8 7 [] [.mk 3 0 [] [tV 1,tW n] []] []] []
end
end Go.CoreX
namespace Go.CoreX
mutual
def szV:Vl->Nat
 |.res fs=>szFs fs
 |_=>0
def szVs:List Vl->Nat
 |[]=>0
 |v::vs=>szV v+szVs vs
def szF:Fm->Nat
 |.mk _ _ d=>1+szVs d
def szFs:List Fm->Nat
 |[]=>0
 |f::fs=>szF f+szFs fs
end
theorem Ql5(a b:List Fm):szFs (a++b)=szFs a+szFs b:=by
 induction a with
 |nil=>simp[szFs]
 |cons x a ih=>simp[szFs,ih];omega
def phase (m:Ms):Nat:=match m.c with
 |.ev _ _=>0
 |.rt _=>1+szFs m.k
structure After (fu:Int)(m m':Ms)(b:Nat):Prop where
 ge:m.steps<=m'.steps
 le:m.steps<=fu->m'.steps<=fu
 ph:phase m' < 1+b
theorem Qa6{tag:Int}{fs:List Vl}{e:En}{kids:List Tr}{c:Ctl}:∀(i:Nat)(l:List Alt),Q16 tag fs e kids i l=.ok c->∃t e',c=.ev t e'
 |_,[],h=>by cases h
 |i,a::al,h=>by
  unfold Q16 at h
  split at h
  ·split at h
   ·cases h;exact⟨_,_,rfl⟩
   ·cases h
  ·split at h
   ·cases h;exact⟨_,_,rfl⟩
   ·exact Qa6 _ al h
theorem Q8d{m m':Ms}{op:Int}{v:Vl}:∀(l k:List Fm),Q3a m op v l k=.ok m'->(∃t e',m'.c=.ev t e')/\m'.steps=m.steps
 |_,[],h=>by cases h
 |l,f::k,h=>by
  unfold Q3a at h
  split at h
  ·cases h;exact⟨⟨_,_,rfl⟩,rfl⟩
  ·exact Q8d _ k h
theorem Qdo{fu:Int}{m m':Ms}{n:Int}{l:List Vl}{v:Vl}(h:primM fu m n l=.ok (m',v)):m.steps<=m'.steps/\(m.steps<=fu->m'.steps<=fu)/\m'.k=m.k:=by
 have bd:∀{α β:Type}{x:Except Int α}{f:α->Except Int β}{r:β},x.bind f=.ok r->∃a,x=.ok a/\f a=.ok r:=by
  intro α β x f r hh
  cases x with
  |error c=>cases hh
  |ok a=>exact⟨a,rfl,hh⟩
 unfold primM at h
 repeat' split at h
 all_goals try (simp only[bind,Except.bind,pure,Except.pure]at h;repeat' split at h)
 all_goals try (cases h;done)
 all_goals try (cases h;exact⟨Int.le_refl _,id,rfl⟩)
 ·unfold Q3r at h
  repeat' split at h
  all_goals try (cases h;done)
  cases h
  refine⟨?_,?_,rfl⟩ <;> simp <;> omega
 ·unfold Q33 at h
  simp only[bind,Except.bind,pure,Except.pure]at h
  repeat' split at h
  all_goals try (cases h;done)
  all_goals (cases h;exact⟨Int.le_refl _,id,rfl⟩)
theorem Q4r{fu:Int}{m m':Ms}{t:Tr}{l:List Vl}{v:Vl}(h:Q17 fu m t l=.ok (m',v)):m.steps<=m'.steps/\(m.steps<=fu->m'.steps<=fu)/\m'.k=m.k:=by
 unfold Q17 at h
 repeat' split at h
 ·cases h;exact⟨Int.le_refl _,id,rfl⟩
 ·exact Qdo h
 ·cases h;exact⟨Int.le_refl _,id,rfl⟩
 ·simp only[bind,Except.bind,pure,Except.pure]at h
  repeat' split at h
  all_goals try (cases h;done)
  all_goals (cases h;exact⟨Int.le_refl _,id,rfl⟩)
 ·simp only[bind,Except.bind,pure,Except.pure]at h
  repeat' split at h
  all_goals try (cases h;done)
  all_goals (cases h;exact⟨Int.le_refl _,id,rfl⟩)
theorem Q57{fu:Int}{fns:List Fun}{m m':Ms}{f:Fm}{k:List Fm}(h:kidM fu fns m f k=.ok m')(d0:List Vl)(v:Vl)(hd:f.done=d0++[v]∨(f.done=[]/\d0=[])):After fu m m' (1+szVs d0+szFs k):=by
 unfold kidM at h
 split at h
 ·cases h;exact⟨Int.le_refl _,id,by simp[phase];omega⟩
 split at h
 ·cases h;exact⟨Int.le_refl _,id,by simp[phase];omega⟩
 split at h
 ·unfold Q2v at h
  split at h
  ·cases hc:Q16 _ _ f.e f.t.kids 0 f.t.alts with
   |error c=>rw[hc]at h;cases h
   |ok c=>
    rw[hc]at h
    obtain⟨t,e',rfl⟩:=Qa6 _ _ hc
    cases h
    exact⟨Int.le_refl _,id,by simp[phase];omega⟩
  ·cases h
 split at h
 ·unfold callM at h
  split at h
  ·split at h
   ·cases h;exact⟨Int.le_refl _,id,by simp[phase];omega⟩
   ·cases h
  ·split at h
   ·cases h;exact⟨Int.le_refl _,id,by simp[phase];omega⟩
   ·cases h
  ·rename_i fs hf
   split at h
   ·rename_i a ha
    cases h
    refine⟨Int.le_refl _,id,?_⟩
    simp only[phase,Ql5]
    rcases hd with hd|⟨hd,_⟩
    ·rw[hd]at hf ha
     have:d0=[.res fs]:=by
      have hl:=congrArg List.length ha
      simp at hl
      match d0,hl with
      |[x],_=>simp at hf;rw[hf]
     subst this
     simp[szVs,szV]
    ·rw[hd]at ha;cases ha
   ·cases h
  ·cases h
 split at h
 ·cases h;exact⟨Int.le_refl _,id,by simp[phase];omega⟩
 split at h
 ·obtain⟨⟨t,e',hc⟩,hs⟩:=Q8d _ _ h
  refine⟨by rw[hs];exact Int.le_refl _,fun hh=>by rw[hs];exact hh,?_⟩
  simp[phase,hc];omega
 split at h
 ·cases h;exact⟨Int.le_refl _,id,by simp[phase];omega⟩
 split at h
 ·cases h;exact⟨Int.le_refl _,id,by simp[phase];omega⟩
 split at h
 ·split at h
  ·split at h
   ·cases h;exact⟨Int.le_refl _,id,by simp[phase];omega⟩
   ·cases h
  ·cases h
 ·cases hp:Q17 fu { m with k:=k } f.t f.done with
  |error c=>rw[hp]at h;cases h
  |ok mv=>
   obtain⟨m2,v2⟩:=mv
   rw[hp]at h
   cases h
   obtain⟨h1,h2,h3⟩:=Q4r hp
   refine⟨h1,h2,?_⟩
   simp only[phase,h3];omega
theorem Q8a{fu:Int}{fns:List Fun}{m m':Ms}(h:Q0i fu fns m=.next m')(hs:m.steps<=fu):m'.steps<=fu/\(m.steps < m'.steps∨(m.steps=m'.steps/\phase m' < phase m)∨(m.steps<=m'.steps/\phase m' < phase m)):=by
 unfold Q0i at h
 split at h
 ·rename_i v hc
  split at h
  ·cases h
  ·rename_i f k hk
   split at h
   ·rename_i m2 hkid
    cases h
    obtain⟨h1,h2,h3⟩:=Q57 hkid f.done v (.inl rfl)
    refine⟨h2 hs,.inr (.inr ⟨h1,?_⟩)⟩
    have:phase m=1+szFs m.k:=by simp[phase,hc]
    rw[this,hk,szFs]
    cases f with
    |mk t e d=>simp only[szF]at *;simp at h3;omega
   ·cases h
 ·rename_i t e hc
  split at h
  ·cases h
  ·rename_i hne
   split at h
   ·rename_i m2 hst
    cases h
    have hlt:m.steps+1<=fu:=by omega
    have key:∀m3:Ms,m3.steps=m.steps+1->m3.steps<=fu/\(m.steps < m3.steps∨(m.steps=m3.steps/\phase m3 < phase m)∨(m.steps<=m3.steps/\phase m3 < phase m)):=fun m3 h3=>⟨by omega,.inl (by omega)⟩
    unfold Q0l at hst
    repeat' split at hst
    all_goals try (cases hst;done)
    all_goals try (cases hst;exact key _ rfl)
    obtain⟨h1,h2,h3⟩:=Q57 hst [] .nil (.inr ⟨rfl,rfl⟩)
    refine⟨h2 hlt,.inl ?_⟩
    have:m.steps+1<=m'.steps:=h1
    omega
   ·cases h
theorem Qjy(fu:Int)(fns:List Fun):∀(N P:Nat)(m:Ms),m.steps<=fu->(fu - m.steps).toNat=N->phase m=P->∃g R,goM fu fns g m=some R:=by
 intro N
 induction N using Nat.strongRecOn with
 |_ N ihN=>
  intro P
  induction P using Nat.strongRecOn with
  |_ P ihP=>
   intro m hs hN hP
   cases hr:Q0i fu fns m with
   |done m2 v=>exact⟨1,_,by simp only[goM,hr];rfl⟩
   |fuel=>exact⟨1,_,by simp only[goM,hr];rfl⟩
   |trap c m2=>exact⟨1,_,by simp only[goM,hr];rfl⟩
   |next m2=>
    obtain⟨h1,h2⟩:=Q8a hr hs
    have:∃g R,goM fu fns g m2=some R:=by
     by_cases hlt:m.steps < m2.steps
     ·exact ihN _ (by omega) (phase m2) m2 h1 rfl rfl
     ·have:phase m2 < phase m:=by omega
      exact ihP _ (by omega) m2 h1 (by omega) rfl
    obtain⟨g,R,hg⟩:=this
    exact⟨g+1,R,by simp[goM,hr,hg]⟩
theorem Qb9{fu:Int}{fns:List Fun}:∀{g g':Nat}{m:Ms}{R:Rs},g<=g'->goM fu fns g m=some R->goM fu fns g' m=some R
 |0,_,_,_,_,h=>by cases h
 |g+1,0,_,_,hl,_=>by omega
 |g+1,g'+1,m,R,hl,h=>by
  cases hr:Q0i fu fns m with
  |next m2=>simp only[goM,hr]at h ⊢;exact Qb9 (by omega) h
  |done m2 v=>simp only[goM,hr]at h ⊢;exact h
  |fuel=>simp only[goM,hr]at h ⊢;exact h
  |trap c m2=>simp only[goM,hr]at h ⊢;exact h
def EndsM (fu:Int)(fns:List Fun)(m:Ms)(R:Rs):Prop:=∃g,goM fu fns g m=some R
theorem EndsM.det{fu:Int}{fns:List Fun}{m:Ms}{R R':Rs}(h:EndsM fu fns m R)(h':EndsM fu fns m R'):R=R':=by
 obtain⟨g,h⟩:=h
 obtain⟨g',h'⟩:=h'
 have a:=Qb9 (Nat.le_max_left g g') h
 have b:=Qb9 (Nat.le_max_right g g') h'
 rw[a]at b;exact Option.some.inj b
theorem EndsM.step{fu:Int}{fns:List Fun}{m m':Ms}{R:Rs}(h:Q0i fu fns m=.next m')(he:EndsM fu fns m' R):EndsM fu fns m R:=by
 obtain⟨g,he⟩:=he
 exact⟨g+1,by simp[goM,h,he]⟩
theorem EndsM.total{fu:Int}{fns:List Fun}{m:Ms}(h:m.steps<=fu):∃R,EndsM fu fns m R:=by
 obtain⟨g,R,hg⟩:=Qjy fu fns _ _ m h rfl rfl
 exact⟨R,g,hg⟩
def initM (t:Tr):Ms:=⟨.ev t .nil,[],[],0,[]⟩
open Classical in
noncomputable def evalT (t:Tr) (fu:Int):Rs:=if h:∃R,EndsM fu [] (initM t) R then h.choose else Q2a
theorem Qmh{t:Tr}{fu:Int}{R:Rs}(h:EndsM fu [] (initM t) R):evalT t fu=R:=by
 unfold evalT
 rw[dif_pos ⟨R,h⟩]
 exact EndsM.det (Exists.choose_spec (p:=fun R=>EndsM fu [] (initM t) R) ⟨R,h⟩) h
theorem Q77(t:Tr){fu:Int}(h:0<=fu):EndsM fu [] (initM t) (evalT t fu):=by
 obtain⟨R,hR⟩:=EndsM.total (fu:=fu) (fns:=[]) (m:=initM t) h
 rw[Qmh hR];exact hR
noncomputable def evalE (e:List Ex) (fu:Int):Rs:=
 if check e≠0 then { Q2a with err:=check e }else if fu < 1∨1000000 < fu then { Q2a with err:=4 }else evalT (grow e) fu
end Go.CoreX
namespace Go.CoreX
structure GP where
 p:Lab->Prop
 S:Int->Prop
 W:Int->Prop
 fns:List Fun
 R:Prop:=True
 RW:List Int->Prop:=fun _=>True
structure GPok (G:GP):Prop where
 sh:∀l,G.p l->shpQ l
 bnd:∀l,G.p l->∀i∈Q09 l.op l.binds l.alts,G.S i
 wd:∀l,G.p l->l.op=1->G.W l.n
 rc:∀l,G.p l->l.op=5->∀i,i < l.binds.length->l.ops[i]?=some 2
 wr:∀n,G.W (wrapW n)
 wl:∀n:Int,0<=n->n<=1024->G.W n
 wm:∀a b:Int,G.W a->G.W b->G.W (a.tmod b)
 fn:∀f∈G.fns,allT G.p f.body/\∀i∈f.params,G.S i
 cl:∀l,G.p l->l.op=14∨l.op=15->0<=l.n/\l.n < G.fns.length
 rs:∀l,G.p l->l.op=12->G.R
 rw:∀l,G.p l->l.op=9->G.RW l.binds:=by intros;exact True.intro
 ri:∀l,G.p l->l.op=11->∀ls,G.RW ls->bsIs ls l.n=false->G.RW (ls.take (bsAt ls l.n)++l.n::ls.drop (bsAt ls l.n)):=by intros;exact True.intro
def nLf (o:Int):Prop:=¬(o=0∨o=1∨o=2∨o=17∨o=5)
mutual
def gV (G:GP):Vl->Prop
 |.nil=>True
 |.word n=>G.W n
 |.clo t e=>t.op=2/\allT G.p t/\gE G e
 |.obj _ fs=>gVs G fs
 |.row ls fs=>ls.length=fs.length/\G.RW ls/\gVs G fs
 |.arr _=>True
 |.res fs=>G.R/\gFs G fs
 |.cap n sl=>(0<=n/\n < G.fns.length)/\gVs G sl
def gVs (G:GP):List Vl->Prop
 |[]=>True
 |v::l=>gV G v/\gVs G l
def gE (G:GP):En->Prop
 |.nil=>True
 |.bind i v n=>G.S i/\gV G v/\gE G n
 |.recs t n=>t.op=5/\allT G.p t/\gE G n
def gF (G:GP):Fm->Prop
 |.mk t e d=>allT G.p t/\gE G e/\gVs G d/\d.length < opdN t/\nLf t.op
def gFs (G:GP):List Fm->Prop
 |[]=>True
 |f::l=>gF G f/\gFs G l
end
def gC (G:GP):Ctl->Prop
 |.ev t e=>allT G.p t/\gE G e
 |.rt v=>gV G v
structure gM (G:GP)(m:Ms):Prop where
 c:gC G m.c
 k:gFs G m.k
 h:∀r∈m.heap,r.length<=1024/\gVs G r
section
variable {G:GP}(hG:GPok G)
theorem Q1z:∀{l:List Vl},gVs G l↔∀v∈l,gV G v
 |[]=>by simp[gVs]
 |v::l=>by simp[gVs,Q1z (l:=l)]
theorem Qba:∀{l:List Fm},gFs G l↔∀v∈l,gF G v
 |[]=>by simp[gFs]
 |v::l=>by simp[gFs,Qba (l:=l)]
theorem gF_iff{f:Fm}:gF G f↔allT G.p f.t/\gE G f.e/\gVs G f.done/\f.done.length < opdN f.t/\nLf f.t.op:=by cases f;exact Iff.rfl
theorem Q3b{l:List Vl}(h:gVs G l)(i:Nat):gV G (l.getD i .nil):=by
 rw[List.getD_eq_getElem?_getD]
 cases hi:l[i]? with
 |none=>simp[gV]
 |some v=>exact Q1z.1 h v (List.mem_of_getElem? hi)
theorem Qdz{a b:List Vl}(ha:gVs G a)(hb:gVs G b):gVs G (a++b):=Q1z.2 fun v hv=>(List.mem_append.1 hv).elim (Q1z.1 ha v) (Q1z.1 hb v)
theorem Qe1{a b:List Fm}(ha:gFs G a)(hb:gFs G b):gFs G (a++b):=Qba.2 fun v hv=>(List.mem_append.1 hv).elim (Qba.1 ha v) (Qba.1 hb v)
theorem Q8q:∀{ids:List Int}{l:List Vl}{e:En},gE G e->gVs G l->(∀i∈ids,G.S i)->gE G (allE e ids l)
 |[],_,_,he,_,_=>he
 |i::ids,l,e,he,hl,hs=>by
  refine Q8q (ids:=ids) ⟨hs i (by simp),?_,he⟩ ?_ fun j hj=>hs j (by simp[hj])
  ·cases l with
   |nil=>simp[gV]
   |cons v l=>exact hl.1
  ·cases l with
   |nil=>simp[gVs]
   |cons v l=>exact hl.2
include hG
theorem g_sh{t:Tr}(h:allT G.p t):ShN t.op t.n t.binds t.kids.length t.alts:=Qc0 (Q81 hG.sh t h)
theorem g_bnd{t:Tr}(h:allT G.p t):∀i∈Q09 t.op t.binds t.alts,G.S i:=hG.bnd _ (Q10 h)
theorem Qjz{t:Tr}(h:allT G.p t){i:Nat}{a:Alt}(ha:t.alts[i]?=some a):∀j∈a.binds,G.S j:=fun j hj=>g_bnd hG h j (by
 unfold Q09
 exact List.mem_append.2 (.inr (List.mem_flatMap.2 ⟨a,List.mem_of_getElem? ha,hj⟩)))
omit hG in
theorem Q2t{l:List Int}{id:Int}:∀{n i:Nat},Q11 l id n=some i->i < n/\l.getD i 0=id
 |0,_,h=>by cases h
 |n+1,i,h=>by
  unfold Q11 at h
  split at h
  ·rename_i he;cases h;exact⟨by omega,he⟩
  ·have:=Q2t h;exact⟨by omega,this.2⟩
theorem Qme{t:Tr}(h:allT G.p t)(h5:t.op=5){i:Nat}(hi:i < t.binds.length):(t.kids.getD i default).op=2/\allT G.p (t.kids.getD i default)/\i < t.kids.length:=by
 have h1:=hG.rc _ (Q10 h) h5 i hi
 simp only at h1
 rw[List.getElem?_map]at h1
 cases hk:t.kids[i]? with
 |none=>rw[hk]at h1;cases h1
 |some s=>
  rw[hk]at h1
  have hl:=(List.getElem?_eq_some_iff.1 hk).1
  refine⟨?_,Q2w h hl,hl⟩
  rw[List.getD_eq_getElem?_getD,hk]
  simpa using h1
theorem Qe2{id:Int}:∀{e:En},gE G e->gV G (findE id e)
 |.nil,_=>by simp[findE,gV]
 |.bind i v n,h=>by
  unfold findE
  split
  ·exact h.2.1
  ·exact Qe2 h.2.2
 |.recs t n,h=>by
  unfold findE
  split
  ·rename_i i hi
   have h1:=(Q2t hi).1
   have h2:=Qme hG h.2.1 h.1 h1
   exact⟨h2.1,h2.2.1,h.1,h.2.1,h.2.2⟩
  ·exact Qe2 h.2.2
theorem Qcw{t:Tr}{e:En}{tag:Int}{fs:List Vl}{c:Ctl}(ht:allT G.p t)(h7:t.op=7)(he:gE G e)(hf:gVs G fs):∀(l:List Alt)(i:Nat),t.alts.drop i=l->Q16 tag fs e t.kids i l=.ok c->gC G c
 |[],_,_,h=>by cases h
 |a::al,i,hd,h=>by
  have ha:t.alts[i]?=some a:=by
   have:=congrArg (·[0]?) hd
   simpa using this
  have hl:=(List.getElem?_eq_some_iff.1 ha).1
  have hsh:=g_sh hG ht
  rw[h7]at hsh
  have hk:1+i < t.kids.length:=by rw[hsh.case.1];omega
  unfold Q16 at h
  split at h
  ·split at h
   ·cases h;exact⟨Q2w ht hk,Q8q he hf (Qjz hG ht ha)⟩
   ·cases h
  ·split at h
   ·cases h;exact⟨Q2w ht hk,he⟩
   ·exact Qcw ht h7 he hf al (i+1) (by rw[←List.drop_drop,hd];rfl) h
omit hG in
theorem Q6l{op:Int}:∀{l:List Alt}{i j:Nat},Q80 op i l=some j->0 < j/\i<=j/\∃a,l[j - i]?=some a/\a.tag=op
 |[],_,_,h=>by cases h
 |a::al,i,j,h=>by
  unfold Q80 at h
  split at h
  ·rename_i hc;cases h;exact⟨hc.2,by omega,a,by simp,hc.1⟩
  ·obtain⟨h1,h2,b,h3,h4⟩:=Q6l h
   refine⟨h1,by omega,b,?_,h4⟩
   rw[show j - i=(j - (i+1))+1 by omega];simpa using h3
theorem Q9j{op:Int}{v:Vl}{m m':Ms}(hR:G.R)(hv:gV G v)(hh:∀r∈m.heap,r.length<=1024/\gVs G r):∀{k l:List Fm},gFs G l->gFs G k->Q3a m op v l k=.ok m'->gM G m'
 | [], _, _, _, h => by cases h
 |f::k,l,hl,hk,h=>by
  unfold Q3a at h
  split at h
  ·rename_i i hi
   split at hi
   ·rename_i h13
    obtain⟨h1,h2,a,h3,h4⟩:=Q6l hi
    cases h
    cases f with
    |mk t e d=>
     obtain⟨g1,g2,g3,g4⟩:=hk.1
     simp only[Fm.t_mk,Fm.e_mk]at *
     have hsh:=g_sh hG g1
     rw[h13]at hsh
     have h3:t.alts[i]?=some a:=by simpa using h3
     have hil:=(List.getElem?_eq_some_iff.1 h3).1
     have hb:=(hsh.handle.2.2.2 i a h3).2
     rw[if_neg (by omega)]at hb
     have hS:=Qjz hG g1 h3
     have hga:t.alts.getD i ⟨0,[]⟩=a:=by rw[List.getD_eq_getElem?_getD,h3];rfl
     match hab:a.binds,hb with
     |[x,y],_=>
      refine⟨⟨Q2w g1 (by rw[hsh.handle.1];omega),?_,?_,?_,hv,g2⟩,hk.2,hh⟩
      ·rw[hga,hab];exact hS _ (by rw[hab];simp)
      ·exact⟨hR,Qe1 (b:=[_]) hl ⟨⟨g1,g2,g3,g4⟩,trivial⟩⟩
      ·rw[hga,hab];exact hS _ (by rw[hab];simp)
   ·cases hi
  ·exact Q9j hR hv hh (Qe1 (b:=[f]) hl ⟨hk.1,trivial⟩) hk.2 h
theorem primM_g{fu:Int}{m m':Ms}{n:Int}{l:List Vl}{v:Vl}(hl:gVs G l)(hh:∀r∈m.heap,r.length<=1024/\gVs G r)(h:primM fu m n l=.ok (m',v)):gV G v/\∀r∈m'.heap,r.length<=1024/\gVs G r:=by
 have hw:∀{i:Nat}{a:Int},wordV (l.getD i .nil)=.ok a->G.W a:=by
  intro i a ha
  have:=Q3b hl i
  cases hv:l.getD i Vl.nil <;> rw[hv]at ha this <;> first|(cases ha;done)|(cases ha;exact this)
 unfold primM at h
 repeat' split at h
 all_goals try (simp only[bind,Except.bind,pure,Except.pure]at h;repeat' split at h)
 all_goals try (cases h;done)
 all_goals try (cases h;refine⟨?_,hh⟩;first|exact hG.wr _|(simp only[condV,gV,gVs];done))
 ·rename_i a ha _ b hb _
  cases h;exact⟨hG.wm _ _ (hw ha) (hw hb),hh⟩
 ·unfold Q3r at h
  repeat' split at h
  all_goals try (cases h;done)
  cases h
  refine⟨trivial,fun r hr=>?_⟩
  rcases List.mem_append.1 hr with hr|hr
  ·exact hh r hr
  ·simp at hr
   subst hr
   refine⟨by simp;omega,Q1z.2 fun v hv=>?_⟩
   rw[(List.mem_replicate.1 hv).2]
   exact Q3b hl 1
 ·unfold Q33 at h
  simp only[bind,Except.bind,pure,Except.pure]at h
  have hit:∀{a:Nat}{its:List Vl},Q8l m.heap (l.getD 0 .nil)=.ok (a,its)->its.length<=1024/\gVs G its:=by
   intro a its ha
   cases hv:l.getD 0 Vl.nil <;> rw[hv]at ha <;> try (cases ha;done)
   cases ha
   rw[List.getD_eq_getElem?_getD]
   cases hr:m.heap[a]? with
   |none=>simp[gVs]
   |some r=>exact hh r (List.mem_of_getElem? hr)
  cases hp:Q8l m.heap (l.getD 0 .nil) with
  |error c=>rw[hp]at h;cases h
  |ok p=>
   obtain⟨a,its⟩:=p
   rw[hp]at h
   simp only at h
   by_cases h9:n=9
   ·rw[if_pos h9]at h
    cases h
    exact⟨hG.wl _ (by omega) (by have:=(hit hp).1;omega),hh⟩
   rw[if_neg h9]at h
   cases hw1:wordV (l.getD 1 .nil) with
   |error c=>rw[hw1]at h;cases h
   |ok i=>
    rw[hw1]at h
    simp only at h
    split at h
    ·cases h
    split at h
    ·cases h
     exact⟨Q3b (hit hp).2 _,hh⟩
    ·cases h
     refine⟨by simp only[gV,gVs],fun r hr=>?_⟩
     rcases List.mem_or_eq_of_mem_set hr with hr|hr
     ·exact hh r hr
     ·subst hr
      refine⟨by simpa using (hit hp).1,Q1z.2 fun v hv=>?_⟩
      rcases List.mem_or_eq_of_mem_set hv with hv|hv
      ·exact Q1z.1 (hit hp).2 v hv
      ·rw[hv];exact Q3b hl 2
theorem Qlt{fu:Int}{m m':Ms}{t:Tr}{l:List Vl}{v:Vl}(ht:allT G.p t)(h11:t.op=6∨t.op=8∨t.op=9∨t.op=10∨t.op=11)(hlen:l.length=t.kids.length)(hl:gVs G l)(hh:∀r∈m.heap,r.length<=1024/\gVs G r)(h:Q17 fu m t l=.ok (m',v)):gV G v/\∀r∈m'.heap,r.length<=1024/\gVs G r:=by
 have hr:∀{ls:List Int}{fs:List Vl},rowsV (l.getD 0 .nil)=.ok (ls,fs)->ls.length=fs.length/\G.RW ls/\gVs G fs:=by
  intro ls fs ha
  have:=Q3b hl 0
  cases hv:l.getD 0 Vl.nil <;> rw[hv]at ha this <;> first|(cases ha;done)|(cases ha;exact this)
 unfold Q17 at h
 split at h
 ·cases h;exact⟨hl,hh⟩
 split at h
 ·exact primM_g hG hl hh h
 split at h
 ·rename_i h9
  cases h
  have:=g_sh hG ht
  rw[h9]at this
  exact⟨⟨by rw[hlen];exact this.row.1.symm,hG.rw _ (Q10 ht) h9,hl⟩,hh⟩
 split at h
 ·simp only[bind,Except.bind,pure,Except.pure]at h
  repeat' split at h
  all_goals try (cases h;done)
  rename_i _ p hp _
  obtain⟨ls,fs⟩:=p
  cases h
  exact⟨Q3b (hr hp).2.2 _,hh⟩
 ·rename_i n6 n8 n9 n10
  have h11':t.op=11:=by omega
  simp only[bind,Except.bind,pure,Except.pure]at h
  repeat' split at h
  all_goals try (cases h;done)
  rename_i _ p hp
  obtain⟨ls,fs⟩:=p
  cases h
  refine⟨?_,hh⟩
  have hv:=Q3b hl 1
  obtain⟨h1,hrw,h2⟩:=hr hp
  unfold withR
  split
  ·refine⟨by simpa using h1,hrw,Q1z.2 fun v hv'=>?_⟩
   rcases List.mem_or_eq_of_mem_set hv' with h3|h3
   ·exact Q1z.1 h2 v h3
   ·rw[h3];exact hv
  ·rename_i hbs
   refine⟨by simp[h1],hG.ri _ (Q10 ht) h11' _ hrw (by simpa using hbs),Qdz (Q1z.2 fun v hv'=>Q1z.1 h2 v (List.mem_of_mem_take hv')) ⟨hv,Q1z.2 fun v hv'=>Q1z.1 h2 v (List.mem_of_mem_drop hv')⟩⟩
theorem g_fn(n:Int)(h:0<=n/\n < G.fns.length):allT G.p (G.fns.getD n.toNat ⟨[],default⟩).body/\∀i∈(G.fns.getD n.toNat ⟨[],default⟩).params,G.S i:=by
 have hl:n.toNat < G.fns.length:=by omega
 rw[List.getD_eq_getElem?_getD,List.getElem?_eq_getElem hl]
 exact hG.fn _ (List.getElem_mem hl)
theorem g_opN{t:Tr}(ht:allT G.p t):opdN t<=t.kids.length:=by
 have hsh:=g_sh hG ht
 unfold opdN
 split
 ·rename_i h
  rcases h with h|h|h|h <;> rw[h]at hsh
  ·rw[hsh.lett.1];omega
  ·rw[hsh.case.1];omega
  ·rw[hsh.handle.1];omega
  ·rw[(hsh.one (.inr (.inl rfl))).1];omega
 ·omega
omit hG in
theorem Qi5{o n:Int}{b:List Int}{k:Nat}{a:List Alt}(h:ShN o n b k a):0<=o/\o<=17:=by
 by_cases h7:o=7∨o=13
 ·omega
 ·obtain⟨w,⟨ops,hl,hw⟩,_⟩:=h.want h7
  refine Classical.byContradiction fun hc=>?_
  have h0:wants ⟨o,n,b,ops,a⟩=none:=by
   unfold wants
   simp only
   rw[if_neg (by omega),if_neg (by omega),if_neg (by omega),if_neg (by omega),if_neg (by omega),if_neg (by omega),if_neg (by omega),if_neg (by omega),if_neg (by omega),if_neg (by omega),if_neg (by omega),if_neg (by omega)]
  rw[h0]at hw
  cases hw
theorem kidM_g{fu:Int}{m m':Ms}{f:Fm}{k:List Fm}(ht:allT G.p f.t)(he:gE G f.e)(hd:gVs G f.done)(hl:f.done.length<=opdN f.t)(hn:nLf f.t.op)(hk:gFs G k)(hh:∀r∈m.heap,r.length<=1024/\gVs G r)(h:kidM fu G.fns m f k=.ok m'):gM G m':=by
 have hsh:=g_sh hG ht
 have hop:=g_opN hG ht
 have hv:=Q3b hd 0
 unfold kidM at h
 split at h
 ·rename_i hlt
  cases h
  refine⟨⟨Q2w ht (by omega),he⟩,⟨?_,hk⟩,hh⟩
  cases f;exact⟨ht,he,hd,hlt,hn⟩
 rename_i hge
 split at h
 ·rename_i h4
  cases h
  rw[h4]at hsh
  obtain⟨h1,h2,h3⟩:=hsh.lett
  refine⟨⟨Q2w ht (by omega),?_,hv,he⟩,hk,hh⟩
  have:=g_bnd hG ht
  unfold Q09 at this
  rw[if_pos (by omega)]at this
  match hb:f.t.binds,h2 with
  |[x],_=>rw[hb]at this;exact this x (by simp)
 split at h
 ·rename_i h7
  unfold Q2v at h
  split at h
  ·rename_i tag fs hobj
   cases hc:Q16 tag fs f.e f.t.kids 0 f.t.alts with
   |error c=>rw[hc]at h;cases h
   |ok c=>
    rw[hc]at h
    cases h
    rw[hobj]at hv
    exact⟨Qcw hG ht h7 he hv _ 0 rfl hc,hk,hh⟩
  ·cases h
 split at h
 ·rename_i h3
  have hd1:gVs G (f.done.drop 1):=Q1z.2 fun v hv'=>Q1z.1 hd v (List.mem_of_mem_drop hv')
  unfold callM at h
  split at h
  ·rename_i t e hclo
   rw[hclo]at hv
   split at h
   ·cases h
    have h1:=g_sh hG hv.2.1
    have h2:=g_bnd hG hv.2.1
    rw[hv.1]at h1
    unfold Q09 at h2
    rw[hv.1,if_pos (by simp)]at h2
    refine⟨⟨Q2w hv.2.1 (by have:=h1.lam.1;omega),Q8q hv.2.2 hd1 fun i hi=>h2 i (List.mem_append.2 (.inl hi))⟩,hk,hh⟩
   ·cases h
  ·rename_i n slots hcap
   rw[hcap]at hv
   split at h
   ·cases h
    have:=g_fn hG n hv.1
    exact⟨⟨this.1,Q8q trivial ⟨hv,hd1⟩ this.2⟩,hk,hh⟩
   ·cases h
  ·rename_i fs hres
   rw[hres]at hv
   split at h
   ·rename_i a ha
    cases h
    rw[ha]at hd1
    exact⟨hd1.1,Qe1 hv.2 hk,hh⟩
   ·cases h
  ·cases h
 split at h
 ·rename_i h13
  cases h
  rw[h13]at hsh
  obtain⟨h1,h2,h3,h4⟩:=hsh.handle
  refine⟨⟨Q2w ht (by omega),?_,hv,he⟩,hk,hh⟩
  obtain⟨a,ha⟩:∃a,f.t.alts[0]?=some a:=⟨_,List.getElem?_eq_getElem (by omega)⟩
  have hb:=(h4 0 a ha).2
  rw[if_pos rfl]at hb
  have hS:=Qjz hG ht ha
  have hga:f.t.alts.getD 0 ⟨0,[]⟩=a:=by rw[List.getD_eq_getElem?_getD,ha];rfl
  rw[hga]
  match hab:a.binds,hb with
  |[x],_=>rw[hab]at hS;exact hS x (by simp)
 split at h
 ·rename_i h12
  exact Q9j hG (hG.rs _ (Q10 ht) h12) (l:=[]) hv hh trivial hk h
 split at h
 ·rename_i h14
  cases h
  have:=g_fn hG f.t.n (hG.cl _ (Q10 ht) (.inl h14))
  exact⟨⟨this.1,Q8q trivial hd this.2⟩,hk,hh⟩
 split at h
 ·rename_i h15
  cases h
  exact⟨⟨hG.cl _ (Q10 ht) (.inr h15),hd⟩,hk,hh⟩
 split at h
 ·split at h
  ·rename_i n slots hcap
   rw[hcap]at hv
   split at h
   ·cases h;exact⟨Q3b hv.2 _,hk,hh⟩
   ·cases h
  ·cases h
 ·rename_i h4 h7 h3 h13 h12 h14 h15 h16
  cases hp:Q17 fu { m with k:=k } f.t f.done with
  |error c=>rw[hp]at h;cases h
  |ok mv=>
   obtain⟨m2,v2⟩:=mv
   rw[hp]at h
   cases h
   have hlen:f.done.length=f.t.kids.length:=by
    unfold opdN at hge hl
    rw[if_neg (by omega)]at hge hl
    omega
   obtain⟨g1,g2⟩:=Qlt hG (m:={ m with k:=k }) ht (by have:=Qi5 hsh;unfold nLf at hn;omega) hlen hd hh hp
   refine⟨g1,?_,g2⟩
   rw[(Q4r hp).2.2];exact hk
theorem Ql9{fu:Int}{m m':Ms}{t:Tr}{e:En}(ht:allT G.p t)(he:gE G e)(hk:gFs G m.k)(hh:∀r∈m.heap,r.length<=1024/\gVs G r)(h:Q0l fu G.fns m t e=.ok m'):gM G m':=by
 unfold Q0l at h
 split at h
 ·cases h;exact⟨Qe2 hG he,hk,hh⟩
 split at h
 ·rename_i h1
  cases h;exact⟨hG.wd _ (Q10 ht) h1,hk,hh⟩
 split at h
 ·rename_i h2
  cases h;exact⟨⟨h2,ht,he⟩,hk,hh⟩
 split at h
 ·cases h
 split at h
 ·rename_i h5
  cases h
  have hsh:=g_sh hG ht
  rw[h5]at hsh
  exact⟨⟨Q2w ht (by have:=hsh.recs.1;omega),h5,ht,he⟩,hk,hh⟩
 ·rename_i h0 h1 h2 h17 h5
  exact kidM_g hG (f:=.mk t e []) ht he trivial (Nat.zero_le _) (fun hh=>hh.elim h0 fun hh=>hh.elim h1 fun hh=>hh.elim h2 fun hh=>hh.elim h17 h5) hk hh h
theorem Qap{fu:Int}{m m':Ms}(hm:gM G m)(h:Q0i fu G.fns m=.next m'):gM G m':=by
 unfold Q0i at h
 split at h
 ·rename_i v hc
  have hv:gV G v:=by have:=hm.c;rw[hc]at this;exact this
  split at h
  ·cases h
  ·rename_i f k hk
   have hf:=hm.k
   rw[hk]at hf
   split at h
   ·rename_i m2 hkid
    cases h
    obtain⟨g1,g2,g3,g4,g5⟩:=gF_iff.1 hf.1
    exact kidM_g hG (f:=.mk f.t f.e (f.done++[v])) g1 g2 (Qdz (b:=[v]) g3 ⟨hv,trivial⟩) (by simp only[Fm.done_mk,Fm.t_mk,List.length_append,List.length_singleton];omega) g5 hf.2 hm.h hkid
   ·cases h
 ·rename_i t e hc
  have ht:allT G.p t/\gE G e:=by have:=hm.c;rw[hc]at this;exact this
  split at h
  ·cases h
  ·split at h
   ·rename_i m2 hst
    cases h
    exact Ql9 hG (m:={ m with steps:=m.steps+1 }) ht.1 ht.2 hm.k hm.h hst
   ·cases h
end
end Go.CoreX
namespace Go.CoreX
structure Sim where
 ν:Int->Int
 eb:En
 kb:List Fm
 ob:List Int
 hb:List (List Vl)
 st:Int
section
variable {s:Sim}{G:GP}
section
variable (ν:Int->Int)(t:Tr)
end
end
end Go.CoreX
namespace Go.CoreX
section
variable {s:Sim}{G:GP}
def goX (fu:Int)(fns:List Fun):Nat->Ms->Option Rd
 |0,_=>none
 |g+1,m=>match Q0i fu fns m with
  |.next m'=>goX fu fns g m'
  |r=>some r
def rsOf:Rd->Rs
 |.done m v=>⟨m.out,0,lastV v,m.steps,0⟩
 |.trap c m=>if c < 0 then Q2a else ⟨m.out,c,0,m.steps,0⟩
 |_=>Q2a
theorem Qdy(fu:Int)(fns:List Fun):∀(g:Nat)(m:Ms),goM fu fns g m=(goX fu fns g m).map rsOf
 |0,_=>rfl
 |g+1,m=>by
  simp only[goM,goX]
  cases Q0i fu fns m with
  |next m'=>exact Qdy fu fns g m'
  |done m' v=>rfl
  |fuel=>rfl
  |trap c m'=>rfl
theorem Q8c{m m':Ms}{op:Int}{v:Vl}:∀(l k:List Fm),Q3a m op v l k=.ok m'->m'.out=m.out
 |_,[],h=>by cases h
 |l,f::k,h=>by
  unfold Q3a at h
  split at h
  ·cases h;rfl
  ·exact Q8c _ k h
def rdOf (m:Ms):Except Int Ms->Rd
 |.ok m'=>.next m'
 |.error c=>.trap c m
theorem Qf1{fu:Int}{fns:List Fun}{m:Ms}{t:Tr}{e:En}(hc:m.c=.ev t e)(h:¬m.steps=fu):Q0i fu fns m=rdOf { m with steps:=m.steps+1 } (Q0l fu fns { m with steps:=m.steps+1 } t e):=by
 unfold Q0i
 split
 ·rename_i hv;rw[hc]at hv;cases hv
 ·rename_i hv;rw[hc]at hv;cases hv;rw[if_neg h];rfl
theorem Qf0{fu:Int}{fns:List Fun}{m:Ms}{v:Vl}{f:Fm}{k:List Fm}(hc:m.c=.rt v)(hk:m.k=f::k):Q0i fu fns m=rdOf m (kidM fu fns m (.mk f.t f.e (f.done++[v])) k):=by
 simp only[Q0i,hc,hk];rfl
end
end Go.CoreX
namespace Go.CoreX
theorem Ql8{fu:Int}{fns:List Fun}{m m':Ms}{t:Tr}{e:En}(h:Q0l fu fns m t e=.ok m'):m.steps<=m'.steps:=by
 unfold Q0l at h
 repeat' split at h
 all_goals try (cases h;done)
 all_goals try (cases h;exact Int.le_refl _)
 exact (Q57 h [] .nil (.inr ⟨rfl,rfl⟩)).ge
theorem Qie{fu:Int}{fns:List Fun}{m:Ms}{r:Rd}(h:Q0i fu fns m=r):(∀c m',r=.trap c m'->m.steps<=m'.steps)/\(∀m' v,r=.done m' v->m'=m/\m.c=.rt v/\m.k=[]):=by
 subst h
 constructor
 ·intro c m' h
  unfold Q0i at h
  repeat' split at h
  all_goals try (cases h;done)
  ·cases h;exact Int.le_refl _
  ·cases h;simp only;omega
 ·intro m' v h
  unfold Q0i at h
  repeat' split at h
  all_goals try (cases h;done)
  rename_i hc _ hk
  cases h;exact⟨rfl,hc,hk⟩
theorem EndsM.ofX{fu:Int}{fns:List Fun}{m:Ms}{g:Nat}{r:Rd}(h:goX fu fns g m=some r):EndsM fu fns m (rsOf r):=⟨g,by rw[Qdy,h];rfl⟩
end Go.CoreX
namespace Go.Proofs.YtkgjldchcbfpnaaGreatDoor
open Go Go.Abs Go.CoreX
set_option linter.unusedSectionVars false
abbrev tClo:Nat:=198
abbrev tObj:Nat:=160
abbrev tRow:Nat:=248
abbrev tArr:Nat:=300
abbrev tRes:Nat:=239
abbrev tCap:Nat:=192
abbrev tTrap:Nat:=109
abbrev nilPE:AC:=.lit (.pointer none)
abbrev Hm:=Nat->Option (List AC)
abbrev Nm2:=List (Nat×Nat)
def iW (n:Int):AC:=.ifc 3 false [int n]
def iB (t:Nat)(cs:List AC):AC:=.ifc t false [.box cs]
inductive RecC (H:Hm)(t:Tr)(top:AC):Nat->AC->AC->Prop
 |zero (c:AC):RecC H t top 0 c c
 |succ (i k q:Nat) (c b:AC) (hk:H k=some [int (t.binds.getD i 0),.ifc tClo false [.ptr (.o q) 0],c]) (hq:H q=some [.box (cTr (t.kids.getD i default)),top]) (h:RecC H t top i c b):RecC H t top (i+1) (.ptr (.o k) 0) b
mutual
inductive VR (H:Hm)(nm:Nm2):Vl->AC->Prop
 |nil:VR H nm .nil (.lit .nilIface)
 |word (n:Int):VR H nm (.word n) (iW n)
 |clo (t:Tr) (e:En) (c:AC) (he:ER H nm e c):VR H nm (.clo t e) (iB tClo [.box (cTr t),c])
 |cloP (t:Tr) (e:En) (c:AC) (k:Nat) (hk:H k=some [.box (cTr t),c]) (he:ER H nm e c):VR H nm (.clo t e) (.ifc tClo false [.ptr (.o k) 0])
 |obj (g:Int) (fs:List Vl) (cs:List (List AC)) (h:VsR H nm fs cs):VR H nm (.obj g fs) (iB tObj [int g,.sl 1 cs])
 |row (ls:List Int) (fs:List Vl) (cs:List (List AC)) (h:VsR H nm fs cs):VR H nm (.row ls fs) (iB tRow [.sl 1 (ls.map cI),.sl 1 cs])
 |arr (a k n:Nat) (h:nm[a]?=some (k,n)):VR H nm (.arr a) (iB tArr [.arr (.o k) 1 0 n n])
 |res (fs:List Fm) (l:List (List AC)) (h:FsR H nm fs l):VR H nm (.res fs) (iB tRes [.sl 1 l])
 |cap (n:Int) (fs:List Vl) (cs:List (List AC)) (h:VsR H nm fs cs):VR H nm (.cap n fs) (iB tCap [int n,.sl 1 cs])
inductive VsR (H:Hm)(nm:Nm2):List Vl->List (List AC)->Prop
 |nil:VsR H nm [] []
 |cons (v:Vl) (c:AC) (vs:List Vl) (cs:List (List AC)) (hv:VR H nm v c) (h:VsR H nm vs cs):VsR H nm (v::vs) ([c]::cs)
inductive ER (H:Hm)(nm:Nm2):En->AC->Prop
 |nil:ER H nm .nil nilPE
 |bind (i:Int) (v:Vl) (n:En) (k:Nat) (vc nc:AC) (hk:H k=some [int i,vc,nc]) (hv:VR H nm v vc) (hn:ER H nm n nc):ER H nm (.bind i v n) (.ptr (.o k) 0)
 |recs (t:Tr) (n:En) (c nc:AC) (hc:RecC H t c t.binds.length c nc) (hn:ER H nm n nc):ER H nm (.recs t n) c
inductive FR (H:Hm)(nm:Nm2):Fm->AC->Prop
 |mk (t:Tr) (e:En) (d:List Vl) (ec:AC) (dc:List (List AC)) (nx:AC) (hx:nx.ids isO) (he:ER H nm e ec) (hd:VsR H nm d dc):FR H nm (.mk t e d) (.box [.box (cTr t),ec,.sl 1 dc,nx])
inductive FsR (H:Hm)(nm:Nm2):List Fm->List (List AC)->Prop
 |nil:FsR H nm [] []
 |cons (f:Fm) (c:AC) (fs:List Fm) (cs:List (List AC)) (hf:FR H nm f c) (h:FsR H nm fs cs):FsR H nm (f::fs) ([c]::cs)
end
inductive KR (H:Hm)(nm:Nm2):List Fm->AC->Prop
 |nil:KR H nm [] nilPE
 |cons (t:Tr) (e:En) (d:List Vl) (k:List Fm) (ec:AC) (dc:List (List AC)) (kc:AC) (he:ER H nm e ec) (hd:VsR H nm d dc) (hk:KR H nm k kc):KR H nm (.mk t e d::k) (.box [.box (cTr t),ec,.sl 1 dc,kc])
structure Mo (H:Hm)(nm:Nm2)(H':Hm)(nm':Nm2):Prop where
 h:∀k cs,H k=some cs->H' k=some cs
 n:∀(a:Nat) (x:Nat×Nat),nm[a]?=some x->nm'[a]?=some x
theorem Mo.refl(H:Hm)(nm:Nm2):Mo H nm H nm:=⟨fun _ _ h=>h,fun _ _ h=>h⟩
theorem Mo.trans{H H1 H2:Hm}{n n1 n2:Nm2}(a:Mo H n H1 n1)(b:Mo H1 n1 H2 n2):Mo H n H2 n2:=⟨fun k cs h=>b.h k cs (a.h k cs h),fun k x h=>b.n k x (a.n k x h)⟩
section
variable {H H':Hm}{nm nm':Nm2}(hm:Mo H nm H' nm')
include hm
theorem RecC.mo{t:Tr}{top:AC}:∀{i:Nat}{c b:AC},RecC H t top i c b->RecC H' t top i c b
 |_,_,_,.zero c=>.zero c
 |_,_,_,.succ i k q c b hk hq h=>.succ i k q c b (hm.h _ _ hk) (hm.h _ _ hq) (RecC.mo h)
mutual
theorem VR.mo:∀{v:Vl}{c:AC},VR H nm v c->VR H' nm' v c
 |_,_,.nil=>.nil
 |_,_,.word n=>.word n
 |_,_,.clo t e c he=>.clo t e c (ER.mo he)
 |_,_,.cloP t e c k hk he=>.cloP t e c k (hm.h _ _ hk) (ER.mo he)
 |_,_,.obj g fs cs h=>.obj g fs cs (VsR.mo h)
 |_,_,.row ls fs cs h=>.row ls fs cs (VsR.mo h)
 |_,_,.arr a k n h=>.arr a k n (hm.n _ _ h)
 |_,_,.res fs l h=>.res fs l (FsR.mo h)
 |_,_,.cap n fs cs h=>.cap n fs cs (VsR.mo h)
theorem VsR.mo:∀{v:List Vl}{c:List (List AC)},VsR H nm v c->VsR H' nm' v c
 |_,_,.nil=>.nil
 |_,_,.cons v c vs cs hv h=>.cons v c vs cs (VR.mo hv) (VsR.mo h)
theorem ER.mo:∀{e:En}{c:AC},ER H nm e c->ER H' nm' e c
 |_,_,.nil=>.nil
 |_,_,.bind i v n k vc nc hk hv hn=>.bind i v n k vc nc (hm.h _ _ hk) (VR.mo hv) (ER.mo hn)
 |_,_,.recs t n c nc hc hn=>.recs t n c nc (RecC.mo hm hc) (ER.mo hn)
theorem FR.mo:∀{f:Fm}{c:AC},FR H nm f c->FR H' nm' f c
 |_,_,.mk t e d ec dc nx hx he hd=>.mk t e d ec dc nx hx (ER.mo he) (VsR.mo hd)
theorem FsR.mo:∀{f:List Fm}{c:List (List AC)},FsR H nm f c->FsR H' nm' f c
 |_,_,.nil=>.nil
 |_,_,.cons f c fs cs hf h=>.cons f c fs cs (FR.mo hf) (FsR.mo h)
end
theorem KR.mo:∀{k:List Fm}{c:AC},KR H nm k c->KR H' nm' k c
 |_,_,.nil=>.nil
 |_,_,.cons t e d k ec dc kc he hd hk=>.cons t e d k ec dc kc (ER.mo hm he) (VsR.mo hm hd) (KR.mo hk)
end
section
variable {H:Hm}{nm:Nm2}
theorem RecC.ids{t:Tr}{top:AC}:∀{i:Nat}{c b:AC},RecC H t top i c b->b.ids isO->c.ids isO
 |_,_,_,.zero c,h=>h
 |_,_,_,.succ i k q c b hk hq h,_=>trivial
mutual
theorem VR.ids:∀{v:Vl}{c:AC},VR H nm v c->c.ids isO
 |_,_,.nil=>trivial
 |_,_,.word n=>by simp[iW,AC.ids,idsL]
 |_,_,.clo t e c he=>⟨⟨by simp,ER.ids he,trivial⟩,trivial⟩
 |_,_,.cloP t e c k hk he=>⟨trivial,trivial⟩
 |_,_,.obj g fs cs h=>⟨⟨trivial,VsR.ids h,trivial⟩,trivial⟩
 |_,_,.row ls fs cs h=>⟨⟨by simp,VsR.ids h,trivial⟩,trivial⟩
 |_,_,.arr a k n h=>⟨⟨trivial,trivial⟩,trivial⟩
 |_,_,.res fs l h=>⟨⟨FsR.ids h,trivial⟩,trivial⟩
 |_,_,.cap n fs cs h=>⟨⟨trivial,VsR.ids h,trivial⟩,trivial⟩
theorem VsR.ids:∀{v:List Vl}{c:List (List AC)},VsR H nm v c->idsS isO c
 |_,_,.nil=>trivial
 |_,_,.cons v c vs cs hv h=>⟨⟨VR.ids hv,trivial⟩,VsR.ids h⟩
theorem ER.ids:∀{e:En}{c:AC},ER H nm e c->c.ids isO
 |_,_,.nil=>trivial
 |_,_,.bind i v n k vc nc hk hv hn=>trivial
 |_,_,.recs t n c nc hc hn=>RecC.ids hc (ER.ids hn)
theorem FR.ids:∀{f:Fm}{c:AC},FR H nm f c->c.ids isO
 |_,_,.mk t e d ec dc nx hx he hd=>⟨by simp,ER.ids he,VsR.ids hd,hx,trivial⟩
theorem FsR.ids:∀{f:List Fm}{c:List (List AC)},FsR H nm f c->idsS isO c
 |_,_,.nil=>trivial
 |_,_,.cons f c fs cs hf h=>⟨⟨FR.ids hf,trivial⟩,FsR.ids h⟩
end
theorem KR.ids:∀{k:List Fm}{c:AC},KR H nm k c->c.ids isO
 |_,_,.nil=>trivial
 |_,_,.cons t e d k ec dc kc he hd hk=>⟨by simp,ER.ids he,VsR.ids hd,KR.ids hk,trivial⟩
theorem VsR.len:∀{v:List Vl}{c:List (List AC)},VsR H nm v c->c.length=v.length
 |_,_,.nil=>rfl
 |_,_,.cons v c vs cs hv h=>by simp[VsR.len h]
theorem VsR.get:∀{v:List Vl}{c:List (List AC)}{i:Nat}{x:Vl},VsR H nm v c->v[i]?=some x->∃y,c[i]?=some [y]/\VR H nm x y
 |_,_,i,x,.nil,hx=>by simp at hx
 |_,_,0,x,.cons v c vs cs hv h,hx=>by simp at hx;subst hx;exact⟨c,rfl,hv⟩
 |_,_,i+1,x,.cons v c vs cs hv h,hx=>VsR.get (i:=i) h (by simpa using hx)
theorem VsR.snoc:∀{v:List Vl}{c:List (List AC)}{x:Vl}{y:AC},VsR H nm v c->VR H nm x y->VsR H nm (v++[x]) (c++[[y]])
 |_,_,x,y,.nil,hx=>.cons x y [] [] hx .nil
 |_,_,x,y,.cons v c vs cs hv h,hx=>.cons v c _ _ hv (VsR.snoc h hx)
theorem VsR.drop:∀{v:List Vl}{c:List (List AC)}(n:Nat),VsR H nm v c->VsR H nm (v.drop n) (c.drop n)
 |_,_,0,h=>by simpa using h
 |_,_,n+1,.nil=>.nil
 |_,_,n+1,.cons v c vs cs hv h=>VsR.drop n h
end
variable {Γ:List (Nat×List AC)}
def unitF:FV:=.tup []
def trapE (c:Int):List PanicEntry:=[{ v:=.iface tTrap (.agg #[.int .i64 c]),recovered:=false }]
theorem Q0x{w:World}{C:Ctx}{v:Value}{c:Int}(h:R w C (.ifc tTrap true [int c]) v):[({ v:=v,recovered:=false }:PanicEntry)]=trapE c:=by
 obtain⟨xs,h1,⟨_,rfl⟩|⟨h2,_⟩⟩:=h
 ·simp only[RV]at h1
  obtain⟨u,us,rfl,h3,rfl⟩:=h1
  simp only[int,R]at h3
  rw[h3.1];rfl
 ·cases h2
theorem conc3:Tryz.prog.concrete 3=true:=by kernel_rfl
theorem Q4y:Tryz.prog.concrete tClo=true:=by kernel_rfl
theorem Q4g:Tryz.prog.concrete tObj=true:=by kernel_rfl
theorem Qbg:Tryz.prog.concrete tRow=true:=by kernel_rfl
theorem Qe7:Tryz.prog.concrete tArr=true:=by kernel_rfl
theorem Qkb:Tryz.prog.concrete tRes=true:=by kernel_rfl
theorem Q4h:Tryz.prog.concrete tCap=true:=by kernel_rfl
theorem Q0s:Tryz.prog.concrete tTrap=true:=by kernel_rfl
theorem z3(w:World):(zeroValue 3).run Tryz.prog w=.ok (.int .i64 0) w:=Q43 (by kernel_rfl) w
theorem zClo(w:World):(zeroValue tClo).run Tryz.prog w=.ok (.pointer none) w:=Q43 (by kernel_rfl) w
theorem zObj(w:World):(zeroValue tObj).run Tryz.prog w=.ok (.pointer none) w:=Q43 (by kernel_rfl) w
theorem zRow(w:World):(zeroValue tRow).run Tryz.prog w=.ok (.pointer none) w:=Q43 (by kernel_rfl) w
theorem zArr(w:World):(zeroValue tArr).run Tryz.prog w=.ok (.pointer none) w:=Q43 (by kernel_rfl) w
theorem zRes(w:World):(zeroValue tRes).run Tryz.prog w=.ok (.pointer none) w:=Q43 (by kernel_rfl) w
theorem zCap(w:World):(zeroValue tCap).run Tryz.prog w=.ok (.pointer none) w:=Q43 (by kernel_rfl) w
def notT (t:Nat)(c:AC):Prop:=c=.lit .nilIface∨∃t' ag cs,c=.ifc t' ag cs/\Nat.beq t' t=false
section
variable {H:Hm}{nm:Nm2}{v:Vl}{c:AC}
theorem VR.isWord(h:VR H nm v c):(∃n,v=.word n/\c=iW n)∨((∀n,v≠.word n)/\notT 3 c):=by
 cases h <;> first|exact .inl ⟨_,rfl,rfl⟩|exact .inr ⟨by simp,.inl rfl⟩|exact .inr ⟨by simp,.inr ⟨_,_,_,rfl,rfl⟩⟩
theorem VR.isClo(h:VR H nm v c):(∃t e,v=.clo t e)∨((∀t e,v≠.clo t e)/\notT tClo c):=by
 cases h <;> first|exact .inl ⟨_,_,rfl⟩|exact .inr ⟨by simp,.inl rfl⟩|exact .inr ⟨by simp,.inr ⟨_,_,_,rfl,rfl⟩⟩
theorem VR.isObj(h:VR H nm v c):(∃g fs cs,v=.obj g fs/\c=iB tObj [int g,.sl 1 cs]/\VsR H nm fs cs)∨((∀g fs,v≠.obj g fs)/\notT tObj c):=by
 cases h <;> first|exact .inl ⟨_,_,_,rfl,rfl,‹_›⟩|exact .inr ⟨by simp,.inl rfl⟩|exact .inr ⟨by simp,.inr ⟨_,_,_,rfl,rfl⟩⟩
theorem VR.isRow(h:VR H nm v c):(∃ls fs cs,v=.row ls fs/\c=iB tRow [.sl 1 (ls.map cI),.sl 1 cs]/\VsR H nm fs cs)∨((∀g fs,v≠.row g fs)/\notT tRow c):=by
 cases h <;> first|exact .inl ⟨_,_,_,rfl,rfl,‹_›⟩|exact .inr ⟨by simp,.inl rfl⟩|exact .inr ⟨by simp,.inr ⟨_,_,_,rfl,rfl⟩⟩
theorem VR.isArr(h:VR H nm v c):(∃a k n,v=.arr a/\c=iB tArr [.arr (.o k) 1 0 n n]/\nm[a]?=some (k,n))∨((∀a,v≠.arr a)/\notT tArr c):=by
 cases h <;> first|exact .inl ⟨_,_,_,rfl,rfl,‹_›⟩|exact .inr ⟨by simp,.inl rfl⟩|exact .inr ⟨by simp,.inr ⟨_,_,_,rfl,rfl⟩⟩
theorem VR.isRes(h:VR H nm v c):(∃fs l,v=.res fs/\c=iB tRes [.sl 1 l]/\FsR H nm fs l)∨((∀fs,v≠.res fs)/\notT tRes c):=by
 cases h <;> first|exact .inl ⟨_,_,rfl,rfl,‹_›⟩|exact .inr ⟨by simp,.inl rfl⟩|exact .inr ⟨by simp,.inr ⟨_,_,_,rfl,rfl⟩⟩
theorem VR.isCap(h:VR H nm v c):(∃n fs cs,v=.cap n fs/\c=iB tCap [int n,.sl 1 cs]/\VsR H nm fs cs)∨((∀n fs,v≠.cap n fs)/\notT tCap c):=by
 cases h <;> first|exact .inl ⟨_,_,_,rfl,rfl,‹_›⟩|exact .inr ⟨by simp,.inl rfl⟩|exact .inr ⟨by simp,.inr ⟨_,_,_,rfl,rfl⟩⟩
theorem Q54(h:∀n,v≠.word n):wordV v=.error 5:=by cases v <;> first|rfl|exact absurd rfl (h _)
end
theorem Q0h(n:Int):APure Tryz.prog Γ 166 [.one (iW n)] (.one (int n)):=by
 intro ou
 refine AFn.walk 15 tabOk Tryz.func166 rfl (by kernel_rfl) rfl rfl fun hou=>?_
 refine zA ?_
 refine zS (AStep.assertYes conc3 rfl rfl) ?_
 refine zA ?_
 exact APure.fin rfl (WkF.ofEq rfl) (by simp) hou rfl
theorem Qdb(hΓ:∀g cs,(g,cs)∈Γ->idsL isO cs){c:AC}(hc:notT 3 c)(ou:Outer):AFnP Tryz.prog Γ 166 [.one c] ou (fun _ _=>False) (fun ps ou'=>ps=trapE 5/\ou'=ou):=by
 refine AFnP.walk 15 tabOk hΓ Tryz.func166 rfl (by kernel_rfl) rfl rfl fun hou=>?_
 refine zA ?_
 refine zS (AStep.assertNo conc3 rfl z3 rfl rfl hc) ?_
 refine zA ?_
 refine zS (AStep.mkIfcA Q0s rfl rfl) ?_
 exact AOps.panicI rfl rfl rfl fun w C v hv=>⟨hou,Q0x hv,rfl⟩
theorem Qjf(k n:Nat):APure Tryz.prog Γ 189 [.one (iB tArr [.arr (.o k) 1 0 n n])] (.one (.box [.arr (.o k) 1 0 n n])):=by
 intro ou
 refine AFn.walk 15 tabOk Tryz.func189 rfl (by kernel_rfl) rfl rfl fun hou=>?_
 refine zA ?_
 refine zS (AStep.assertYes Qe7 rfl rfl) ?_
 refine zA ?_
 exact APure.fin rfl (WkF.ofEq rfl) (by simp) hou rfl
theorem Qm7(hΓ:∀g cs,(g,cs)∈Γ->idsL isO cs){c:AC}(hc:notT tArr c)(ou:Outer):AFnP Tryz.prog Γ 189 [.one c] ou (fun _ _=>False) (fun ps ou'=>ps=trapE 5/\ou'=ou):=by
 refine AFnP.walk 15 tabOk hΓ Tryz.func189 rfl (by kernel_rfl) rfl rfl fun hou=>?_
 refine zA ?_
 refine zS (AStep.assertNo Qe7 rfl zArr rfl rfl hc) ?_
 refine zA ?_
 refine zS (AStep.mkIfcA Q0s rfl rfl) ?_
 exact AOps.panicI rfl rfl rfl fun w C v hv=>⟨hou,Q0x hv,rfl⟩
theorem Qex(a b:AC)(ha:a.ids isO)(hb:b.ids isO):APure Tryz.prog Γ 137 [.one (iB tRow [a,b])] (.one (.box [a,b])):=by
 intro ou
 refine AFn.walk 15 tabOk Tryz.func137 rfl (by kernel_rfl) rfl rfl fun hou=>?_
 refine zA ?_
 refine zS (AStep.assertYes Qbg rfl rfl) ?_
 refine zA ?_
 exact APure.fin rfl (WkF.ofEq rfl) ⟨ha,hb,trivial⟩ hou rfl
theorem Qib(hΓ:∀g cs,(g,cs)∈Γ->idsL isO cs){c:AC}(hc:notT tRow c)(ou:Outer):AFnP Tryz.prog Γ 137 [.one c] ou (fun _ _=>False) (fun ps ou'=>ps=trapE 5/\ou'=ou):=by
 refine AFnP.walk 15 tabOk hΓ Tryz.func137 rfl (by kernel_rfl) rfl rfl fun hou=>?_
 refine zA ?_
 refine zS (AStep.assertNo Qbg rfl zRow rfl rfl hc) ?_
 refine zA ?_
 refine zS (AStep.mkIfcA Q0s rfl rfl) ?_
 exact AOps.panicI rfl rfl rfl fun w C v hv=>⟨hou,Q0x hv,rfl⟩
theorem Q7k(b:Bool):APure Tryz.prog Γ 168 [.one (.lit (.bool b))] (.one (iB tObj [int (if b then 1 else 0),.sl 1 []])):=by
 intro ou
 refine AFn.walk 10 tabOk Tryz.func168 rfl (by kernel_rfl) rfl rfl fun hou=>?_
 refine zA ?_
 refine ACode.cond rfl (fun hb=>?_) (fun hb=>?_)
 ·subst hb
  repeat ((fail_if_success ((with_reducible refine oj ?_);refine AOps.atDst 6 rfl ?_));first|refine zO ?_)
  refine AOps.freeze1 (.l 0) 5 rfl rfl ?_
  refine AOps.wk 5 rfl (y:=.one (.box [int 1,.sl 1 []])) (.one (Wk.box (.cons (.refl _) (.cons (.nilS 1) .nil)))) ?_
  refine zS (AStep.mkIfc Q4g rfl rfl) ?_
  refine zA ?_
  exact APure.fin rfl (WkF.ofEq rfl) (by simp[iB]) hou rfl
 ·subst hb
  repeat ((fail_if_success ((with_reducible refine oj ?_);refine AOps.atDst 9 rfl ?_));first|refine zO ?_)
  refine AOps.freeze1 (.l 0) 8 rfl rfl ?_
  refine AOps.wk 8 rfl (y:=.one (.box [int 0,.sl 1 []])) (.one (Wk.box (.cons (.refl _) (.cons (.nilS 1) .nil)))) ?_
  refine zS (AStep.mkIfc Q4g rfl rfl) ?_
  refine zA ?_
  exact APure.fin rfl (WkF.ofEq rfl) (by simp[iB]) hou rfl
theorem Q7y(n:Int)(h0:-2305843009213693952<=n)(h1:n<=2305843009213693952):APure Tryz.prog Γ 165 [.one (int n)] (.one (int (wrapW n))):=by
 intro ou
 refine AFn.walk 7 tabOk Tryz.func165 rfl (by kernel_rfl) rfl rfl fun hou=>?_
 refine zM ?_
 refine zS (AStep.and rfl rfl rfl) ?_
 rw[Qmy]
 have h4:0<=(n - (-1073741824)) % 2147483648:=Int.emod_nonneg _ (by decide)
 have h5:(n - (-1073741824)) % 2147483648 < 2147483648:=Int.emod_lt_of_pos _ (by decide)
 refine zM ?_
 refine APure.fin rfl (WkF.ofEq ?_) (by simp) hou rfl
 unfold wrapW
 congr 3
theorem Q9z(hΓ:∀g cs,(g,cs)∈Γ->idsL isO cs)(a b:Int)(ha:-1073741824<=a/\a<=1073741823)(hb:-1073741824<=b/\b<=1073741823)(hb0:b≠0):APure Tryz.prog Γ 167 [.one (int a),.one (int b)] (.tup [.one (int (a.tdiv b)),.one (int (a.tmod b))]):=by
 intro ou
 refine AFn.walk 16 tabOk Tryz.func167 rfl (by kernel_rfl) rfl rfl fun hou=>?_
 refine zA ?_
 refine ACode.cond rfl (fun hb=>absurd hb (by simpa using hb0)) (fun hb=>?_)
 have hq:Q49 .i64 (a.tdiv b):=by
  have h1:(a.tdiv b).natAbs<=a.natAbs:=Int.natAbs_tdiv_le_natAbs a b
  exact Q31 (by omega) (by omega)
 refine zA ?_
 refine ACode.drawX tabOk 7 [(2,.one (int (a.tdiv b))),(5,.one (int (a.tmod b)))] follows (by kernel_rfl) rfl rfl rfl rfl ?_ ?_
 ·exact⟨⟨_,rfl,AStep.quo rfl rfl rfl hb0 hq⟩,⟨_,rfl,AStep.rem rfl rfl rfl hb0⟩,trivial⟩
 refine zA ?_
 exact APure.fin rfl (WkF.ofEq rfl) (by simp) hou rfl
theorem Qa0(hΓ:∀g cs,(g,cs)∈Γ->idsL isO cs)(a:Int)(ou:Outer):AFnP Tryz.prog Γ 167 [.one (int a),.one (int 0)] ou (fun _ _=>False) (fun ps ou'=>ps=trapE 1/\ou'=ou):=by
 refine AFnP.walk 16 tabOk hΓ Tryz.func167 rfl (by kernel_rfl) rfl rfl fun hou=>?_
 refine zA ?_
 refine zS (AStep.mkIfcA Q0s rfl rfl) ?_
 exact AOps.panicI rfl rfl rfl fun w C v hv=>⟨hou,Q0x hv,rfl⟩
theorem Qj5{H:Hm}{nm:Nm2}{v:Vl}{c:AC}(h:VR H nm v c):APure Tryz.prog Γ 51 [.one c] (.one (int (lastV v))):=by
 intro ou
 refine AFn.walk 17 tabOk Tryz.func51 rfl (by kernel_rfl) rfl rfl fun hou=>?_
 rcases h.isWord with ⟨n,rfl,rfl⟩|⟨hw,hn⟩
 ·refine zA ?_
  refine zS (AStep.assertYes conc3 rfl rfl) ?_
  refine zA ?_
  exact APure.fin rfl (WkF.ofEq rfl) (by simp) hou rfl
 ·refine zA ?_
  refine zS (AStep.assertNo conc3 rfl z3 rfl rfl hn) ?_
  refine zA ?_
  rcases h.isObj with ⟨g,fs,cs,rfl,rfl,h2⟩|⟨ho,hn2⟩
  ·refine zS (AStep.assertYes Q4g rfl rfl) ?_
   refine zA ?_
   exact APure.fin rfl (WkF.ofEq rfl) (by simp) hou rfl
  ·refine zS (AStep.assertNo Q4g rfl zObj rfl rfl hn2) ?_
   refine zA ?_
   refine APure.fin rfl (WkF.ofEq ?_) (by simp) hou rfl
   cases v <;> first|rfl|exact absurd rfl (hw _)|exact absurd rfl (ho _ _)
theorem Q46(t:Tr):APure Tryz.prog Γ 106 [.one (.box (cTr t))] (.one (int (opdN t))):=by
 intro ou
 refine AFn.walk 17 tabOk Tryz.func106 rfl (by kernel_rfl) rfl rfl fun hou=>?_
 unfold opdN
 repeat' first|refine zN ?_|(with_reducible refine oj ?_;refine AOps.splitS rfl rfl rfl rfl (fun hb=>?_) (fun hb=>?_))|(with_reducible refine ok ?_;first|refine ACode.condS rfl (fun hb=>?_) (fun hb=>?_)|refine ACode.cond rfl (fun hb=>?_) (fun hb=>?_))
 all_goals (refine APure.fin rfl (WkF.ofEq ?_) (by simp) hou rfl)
 all_goals (simp_all[int,Q0k])
theorem Qdc(id:Int)(vc ec:AC)(hv:vc.ids isO)(he:ec.ids isO)(ou:Outer):AFn Tryz.prog Γ 107 [.one ec,.one (int id),.one vc] ou
  (fun r ou'=>∃k,r=.one (.ptr (.o k) 0)/\NewO ou ou' [(k,.cells [int id,vc,ec])]):=by
 refine AFn.walk 12 tabOk Tryz.func107 rfl (by kernel_rfl) rfl rfl fun hou=>?_
 repeat ((fail_if_success ((with_reducible refine oj ?_);refine AOps.atDst 11 rfl ?_));first|refine zO ?_)
 (first|((with_reducible refine oj ?_);refine zau ?_)|(with_reducible refine zst ?_)|((with_reducible refine Q0t ?_ ?_);rfl)|(with_reducible refine ok ?_;first|refine ACode.condT rfl ?_|refine ACode.condF rfl ?_))
 refine AOps.cedes [0] rfl (by decide) hou fun k hk=>⟨[(11,.one (.ptr (.o k) 0))],[],[.cells [int id,vc,ec]],.cons rfl rfl .nil,.nil,?_,?_⟩
 ·exact .cons rfl (AObj.sub_f (fun i hi=>by cases i with|l q=>exact hi.elim|o q=>rfl) _ ⟨trivial,hv,he,trivial⟩) .nil
 have hN:=NewO.add hk hou (show (AObj.cells [int id,vc,ec]).ids isO from ⟨trivial,hv,he,trivial⟩)
 refine zA ?_
 exact AFn.fin' rfl (WkF.ofEq rfl) (by simp) hN.ok ⟨k,rfl,hN⟩
inductive Ch (H:Hm):AC->List (Int×AC)->Prop
 |nil:Ch H nilPE []
 |cons (i:Int) (k:Nat) (vc nc:AC) (l:List (Int×AC)) (hk:H k=some [int i,vc,nc]) (h:Ch H nc l):Ch H (.ptr (.o k) 0) ((i,vc)::l)
def lookI (id:Int):List (Int×AC)->AC
 |[]=>.lit .nilIface
 |(i,c)::l=>if i=id then c else lookI id l
theorem RecC.ch{H:Hm}{t:Tr}{top:AC}{b:AC}{lb:List (Int×AC)}(hb:Ch H b lb):∀{i:Nat}{c:AC},RecC H t top i c b->
  ∃l,Ch H c l/\∀id,(∃j q,Q11 t.binds id i=some j/\lookI id l=.ifc tClo false [.ptr (.o q) 0]/\H q=some [.box (cTr (t.kids.getD j default)),top])∨(Q11 t.binds id i=none/\lookI id l=lookI id lb)
 |_,_,.zero c=>⟨lb,hb,fun id=>.inr ⟨rfl,rfl⟩⟩
 |_,_,.succ i k q c b hk hq h=>by
  obtain⟨l,h1,h2⟩:=RecC.ch hb h
  refine⟨_,.cons _ k _ _ l hk h1,fun id=>?_⟩
  simp only[lookI,Q11]
  by_cases e:t.binds.getD i 0=id
  ·exact .inl ⟨i,q,by rw[if_pos e],by rw[if_pos e],hq⟩
  ·rw[if_neg e,if_neg e];exact h2 id
theorem ER.ch{H:Hm}{nm:Nm2}:∀{e:En}{c:AC},ER H nm e c->∃l,Ch H c l/\∀id,VR H nm (findE id e) (lookI id l)
 |_,_,.nil=>⟨[],.nil,fun id=>by simp only[findE,lookI];exact .nil⟩
 |_,_,.bind i v n k vc nc hk hv hn=>by
  obtain⟨l,h1,h2⟩:=ER.ch hn
  refine⟨_,.cons i k vc nc l hk h1,fun id=>?_⟩
  simp only[findE,lookI]
  by_cases e:i=id
  ·rw[if_pos e,if_pos e];exact hv
  ·rw[if_neg e,if_neg e];exact h2 id
 |_,_,.recs t n c nc hc hn=>by
  obtain⟨l,h1,h2⟩:=ER.ch hn
  obtain⟨l',h3,h4⟩:=hc.ch h1
  refine⟨l',h3,fun id=>?_⟩
  simp only[findE]
  rcases h4 id with ⟨j,q,h5,h6,h7⟩|⟨h5,h6⟩
  ·rw[h5,h6]
   exact .cloP _ _ _ q h7 (.recs t n c nc hc hn)
  ·rw[h5,h6];exact h2 id
theorem Q32{c:AC}(h:c.ids isO)(n:Nat):c.ids (inL n):=AC.ids_mono (fun i hi=>by cases i with|l k=>exact hi.elim|o k=>trivial) c h
theorem Q59{c:List (List AC)}(h:idsS isO c)(n:Nat):idsS (inL n) c:=Q6e (fun i hi=>by cases i with|l k=>exact hi.elim|o k=>trivial) c h
def InOu (H:Hm)(ou:Outer):Prop:=∀k cs,H k=some cs->ou k=some (.cells cs)
theorem Qk5(hΓ:∀g cs,(g,cs)∈Γ->idsL isO cs){H:Hm}{c:AC}{l:List (Int×AC)}(hc:Ch H c l)(id:Int)(ou:Outer)(hH:InOu H ou)(hci:c.ids isO)(hli:(lookI id l).ids isO):
  AFn Tryz.prog Γ 114 [.one c,.one (int id)] ou (fun r ou'=>r=.one (lookI id l)/\ou'=ou):=by
 refine AFn.walk 21 tabOk Tryz.func114 rfl (by kernel_rfl) rfl rfl fun hou=>?_
 refine zA ?_
 refine ACode.loopR hΓ (α:=AC×List (Int×AC)) (fun a=>[(1,.one (int id)),(0,.one a.1)]) (fun a=>⟨0,[],ou⟩) (fun m a=>Ch H a.1 a.2/\lookI id a.2=lookI id l/\a.1.ids isO/\m=a.2.length) (a0:=(c,l)) (ρ:=_root_.id) ⟨hc,rfl,hci,rfl⟩ (LessR.of rfl zFW (by simp[Q32 hci]) zLO rfl rfl hou) fun m a ha=>?_
 obtain⟨c1,l1⟩:=a
 obtain⟨h1,h2,h3,rfl⟩:=ha
 dsimp only at h1 h2 h3 ⊢
 cases h1 with
 |nil=>
  refine zA ?_
  refine zS (AStep.neNil0 Tryz.underlying67 rfl rfl rfl) ?_
  refine zA ?_
  exact AFn.fin' (r':=.one (lookI id l)) rfl (WkF.ofEq (by rw[←h2];rfl)) hli hou ⟨rfl,rfl⟩
 |cons i k vc nc l2 hk hch=>
  have hx:=hH k _ hk
  have hids:idsL isO [int i,vc,nc]:=hou k _ hx
  have hnc:nc.ids isO:=hids.2.2.1
  refine zA ?_
  refine zS (AStep.neNil Tryz.underlying67 rfl rfl rfl) ?_
  repeat' first|refine zN ?_|((with_reducible refine oj ?_);first|refine zix ?_|refine zow rfl rfl hx ?_)
  refine ACode.cond rfl (fun hb=>?_) (fun hb=>?_)
  ·have he:i=id:=by simpa using hb
   repeat' first|refine zN ?_|((with_reducible refine oj ?_);first|refine zix ?_|refine zow rfl rfl hx ?_)
   exact AFn.fin' (r':=.one (lookI id l)) rfl (WkF.ofEq (by rw[←h2];simp[lookI,he])) hli hou ⟨rfl,rfl⟩
  ·have he:i≠id:=by simpa using hb
   repeat' first|refine zN ?_|((with_reducible refine oj ?_);first|refine zix ?_|refine zow rfl rfl hx ?_)
   exact cInv ⟨l2.length,(nc,l2),_root_.id,by simp,⟨hch,by rw[←h2];simp[lookI,he],hnc,rfl⟩,LessR.of rfl zFW (by simp[Q32 hnc]) zLO rfl rfl hou⟩
def plainO:AObj->Prop
 |.cells _=>True
 |.tok _ _ _=>True
 |.dead=>True
 |_=>False
structure Gro (ou:Outer)(H:Hm)(ou':Outer)(H':Hm):Prop where
 h:∀k cs,H k=some cs->H' k=some cs
 new:∀k,H k=none->H' k≠none->ou k=none
 old:∀k o,ou k=some o->ou' k=some o
 inO:InOu H' ou'
 ok:OuOk ou'
 pl:∀k o,ou' k=some o->ou k=some o∨plainO o
theorem Gro.refl{ou:Outer}{H:Hm}(h:InOu H ou)(ho:OuOk ou):Gro ou H ou H:=⟨fun _ _ h=>h,fun k h1 h2=>absurd h1 h2,fun _ _ h=>h,h,ho,fun _ _ h=>.inl h⟩
theorem Gro.trans{ou ou1 ou2:Outer}{H H1 H2:Hm}(a:Gro ou H ou1 H1)(b:Gro ou1 H1 ou2 H2):Gro ou H ou2 H2:=by
 refine⟨fun k cs h=>b.h k cs (a.h k cs h),fun k h1 h2=>?_,fun k o h=>b.old k o (a.old k o h),b.inO,b.ok,fun k o h=>(b.pl k o h).elim (a.pl k o) .inr⟩
 by_cases h3:H1 k=none
 ·have:=b.new k h3 h2
  cases h4:ou k with
  |none=>rfl
  |some o=>rw[a.old k o h4]at this;cases this
 ·exact a.new k h1 h3
theorem Gro.mo{ou ou':Outer}{H H':Hm}(g:Gro ou H ou' H')(nm:Nm2):Mo H nm H' nm:=⟨g.h,fun _ _ h=>h⟩
def addH (H:Hm)(k:Nat)(cs:List AC):Hm:=fun j=>if j=k then some cs else H j
theorem Gro.add{ou ou':Outer}{H:Hm}(h:InOu H ou){k:Nat}{cs:List AC}(hN:NewO ou ou' [(k,.cells cs)]):Gro ou H ou' (addH H k cs):=by
 have hk:ou k=none:=hN.new k (by simp[keys])
 have hHk:H k=none:=by
  cases h1:H k with
  |none=>rfl
  |some c=>rw[h k c h1]at hk;cases hk
 have hold:∀j o,ou j=some o->ou' j=some o:=fun j o hj=>by
  rw[hN.old j (by simp[keys];rintro rfl;rw[hk]at hj;cases hj)];exact hj
 refine⟨fun j c hj=>?_,fun j h1 h2=>?_,hold,fun j c hj=>?_,hN.ok,fun j o hj=>?_⟩
 ·unfold addH
  rw[if_neg (by rintro rfl;rw[hHk]at hj;cases hj)];exact hj
 ·unfold addH at h2
  split at h2
  ·rename_i e;rw[e];exact hk
  ·exact absurd h1 h2
 ·unfold addH at hj
  split at hj
  ·rename_i e;subst e;cases hj
   exact hN.own (j,_) (by simp)
  ·exact hold j _ (h j c hj)
 ·by_cases e:j=k
  ·subst e
   have:=hN.own (j,_) (List.mem_singleton.2 rfl)
   rw[this]at hj;cases hj;exact .inr trivial
  ·rw[hN.old j (by simp[keys];exact e)]at hj;exact .inl hj
theorem Qd6(x:Int):∀(b:List Int)(l:List Vl)(e:En),allE e (b++[x]) l=.bind x (l.getD b.length .nil) (allE e b l)
 |[],l,e=>by cases l <;> simp[allE]
 |y::b,l,e=>by
  simp only[List.cons_append,allE,Qd6 x b]
  cases l <;> simp
theorem Qd4(hΓ:∀g cs,(g,cs)∈Γ->idsL isO cs){H:Hm}{nm:Nm2}{e:En}{ec:AC}{b:List Int}{l:List Vl}{cs:List (List AC)}(he:ER H nm e ec)(hl:VsR H nm l cs)(hbl:b.length=l.length)(hb20:b.length<=1048576)(ou:Outer)(hH:InOu H ou):
  AFn Tryz.prog Γ 111 [.one ec,.one (.sl 1 (b.map cI)),.one (.sl 1 cs)] ou (fun r ou'=>∃H' c,r=.one c/\Gro ou H ou' H'/\ER H' nm (allE e b l) c):=by
 have hei:=he.ids
 have hci:=hl.ids
 have hcl:=hl.len
 refine AFn.walk 25 tabOk Tryz.func111 rfl (by kernel_rfl) rfl rfl fun hou=>?_
 refine zA ?_
 refine ACode.loopR hΓ (α:=Nat×AC×Outer×Hm) (fun a=>[(11,.one (int a.1)),(10,.one (int (b.map cI).length)),(9,.one (.sl 1 (b.map cI))),(2,.one (.sl 1 cs)),(0,.one a.2.1)]) (fun a=>⟨0,[],a.2.2.1⟩)
  (fun m a=>a.1<=b.length/\Gro ou H a.2.2.1 a.2.2.2/\ER a.2.2.2 nm (allE e (b.take a.1) l) a.2.1/\m=b.length - a.1) (a0:=(0,ec,ou,H)) (ρ:=_root_.id) ⟨by simp,Gro.refl hH hou,by simpa[allE]using he,rfl⟩
  (LessR.of rfl zFW (by simp[Q32 hei,Q59 hci]) zLO rfl rfl hou) fun m a ha=>?_
 obtain⟨i,c,ou1,H1⟩:=a
 obtain⟨hi,hg,he1,rfl⟩:=ha
 dsimp only at hi hg he1 ⊢
 have hou1:=hg.ok
 have hc1:=he1.ids
 refine zA ?_
 refine ACode.cond rfl (fun hb2=>?_) (fun hb2=>?_)
 ·have hlt:i < b.length:=by simpa using hb2
  clear hb2
  obtain⟨x,hx⟩:=Q01 hlt
  obtain⟨v,hv⟩:=Q01 (l:=l) (i:=i) (by omega)
  obtain⟨y,hy,hvy⟩:=hl.get hv
  have hyi:=hvy.ids
  refine zA ?_
  refine zS (zIA rfl rfl rfl (by omega) (Q06 hx)) ?_
  refine zA ?_
  refine zS (zIA rfl rfl rfl (by omega) (show cs[i]?=some [y]from hy)) ?_
  refine zA ?_
  refine AOps.call1 hΓ rfl rfl rfl rfl rfl rfl rfl ⟨hc1,trivial,hyi,trivial⟩ hou1 (Qdc x y c hyi hc1 ou1) fun r ou2 hq hids hou2=>?_
  obtain⟨k,rfl,hN⟩:=hq
  have hg2:=Gro.add hg.inO hN
  have he2:ER (addH H1 k [int x,y,c]) nm (allE e (b.take (i+1)) l) (.ptr (.o k) 0):=by
   have ht:b.take (i+1)=b.take i++[x]:=Q1b hx
   rw[ht,Qd6]
   have hlen:(b.take i).length=i:=by simp;omega
   rw[hlen,List.getD_eq_getElem?_getD,hv]
   exact .bind x v _ k y c (by simp[addH]) (hvy.mo (((hg.trans hg2).mo nm))) (he1.mo (hg2.mo nm))
  refine zM ?_
  exact cInv ⟨b.length - (i+1),(i+1,.ptr (.o k) 0,ou2,addH H1 k [int x,y,c]),_root_.id,by omega,⟨by omega,hg.trans hg2,he2,rfl⟩,LessR.of rfl zFW (by simp[Q59 hci]) zLO rfl rfl hou2⟩
 ·have hlt:i=b.length:=by simp at hb2;omega
  subst hlt
  rw[List.take_length]at he1
  refine zA ?_
  exact AFn.fin' (r':=.one c) rfl (WkF.refl _) hc1 hou1 ⟨H1,c,rfl,hg,he1⟩
structure FcT where
 ac:AC
 kt:Nat
abbrev FcT.ids (fc:FcT)(p:Abs.Id->Prop):Prop:=fc.ac.ids p
def mC (tc ec vc kc:AC)(out:List Int)(st fu:Int)(fc:FcT):List AC:=[tc,ec,vc,kc,.gs 1 (out.map cI) (.o fc.kt),int st,int fu,fc.ac]
def ouX (mc:List AC)(n:Nat)(ou:Outer):Outer:=fun k=>match k with
 |0=>some (.cells mc)
 |k+1=>ou (k+1)
theorem Qc6{ou:Outer}{mc:List AC}{n:Nat}(h0:ou 0=some (.cells mc)):ou=ouX mc n ou:=by
 funext k
 match k with
 |0=>exact h0
 |k+1=>rfl
theorem setX(mc mc':List AC)(n:Nat)(ou:Outer):(⟨0,[],ouX mc n ou⟩:St).set (.o 0) (.cells mc')=⟨0,[],ouX mc' n ou⟩:=by
 simp only[St.set,St.mk.injEq,true_and]
 funext k
 match k with
 |0=>rfl
 |k+1=>simp[Q07 (show k+1≠0 by omega)];rfl
def TkR (ou:Outer)(H:Hm)(nm:Nm2):Prop:=∀cs,ou 0=some (.cells cs)->∀es i,cs[4]?=some (.gs 1 es i)->∃kt,i=.o kt/\1<=kt/\ou kt=some (.tok 3 1 es.length)/\H kt=none/\∀(a k n:Nat),nm[a]?=some (k,n)->k≠kt
structure WR (ou:Outer)(H:Hm)(nm:Nm2)(heap:List (List Vl)):Prop where
 inO:InOu H ou
 ok:OuOk ou
 len:nm.length=heap.length
 arr:∀(a k n:Nat),nm[a]?=some (k,n)->∃cs:List AC,ou k=some (.cells cs)/\VsR H nm (heap.getD a []) (cs.map fun c=>[c])/\n=cs.length
 aH:∀(a k n:Nat),nm[a]?=some (k,n)->H k=none
 aa:∀(a b k n n':Nat),nm[a]?=some (k,n)->nm[b]?=some (k,n')->a=b
 sep:H 0=none/\∀(a k n:Nat),nm[a]?=some (k,n)->1<=k
 tk:TkR ou H nm
 pl:∀k o,ou k=some o->plainO o
theorem WR.gro{ou ou':Outer}{H H':Hm}{nm:Nm2}{heap:List (List Vl)}(w:WR ou H nm heap)(g:Gro ou H ou' H')(h0:ou 0≠none)(h1:True):WR ou' H' nm heap:=by
 have hH:∀k,ou k≠none->H k=none->H' k=none:=fun k hk hh=>by
  cases h:H' k with
  |none=>rfl
  |some c=>exact absurd (g.new k hh (by rw[h];simp)) hk
 refine⟨g.inO,g.ok,w.len,fun a k n h=>?_,fun a k n h=>?_,w.aa,⟨hH 0 h0 w.sep.1,w.sep.2⟩,fun cs hc es i hi=>?_,fun k o hk=>(g.pl k o hk).elim (w.pl k o) id⟩
 ·obtain⟨cs,c1,c2,c3⟩:=w.arr a k n h
  exact⟨cs,g.old k _ c1,c2.mo (g.mo nm),c3⟩
 ·obtain⟨cs,c1,c2,c3⟩:=w.arr a k n h
  exact hH k (by rw[c1];simp) (w.aH a k n h)
 ·cases ho:ou 0 with
  |none=>exact absurd ho h0
  |some o=>
   have:=g.old 0 _ ho
   rw[hc]at this
   cases this
   obtain⟨kt,e1,e2,e3,e4,e5⟩:=w.tk cs ho es i hi
   exact⟨kt,e1,e2,g.old _ _ e3,hH kt (by rw[e3];simp) e4,e5⟩
theorem WR.put{mc mc':List AC}{n:Nat}{ou:Outer}{H:Hm}{nm:Nm2}{heap:List (List Vl)}(w:WR (ouX mc n ou) H nm heap)(hi:idsL isO mc'){ou':Outer}(h0:ou' 0=some (.cells mc'))(h1:mc'[4]?=mc[4]?)(h2:∀k,ou' (k+1)=ou (k+1)):WR ou' H nm heap:=by
 have e:∀k,1<=k->ou' k=ouX mc n ou k:=fun k hk=>by
  obtain⟨j,rfl⟩:∃j,k=j+1:=⟨k - 1,by omega⟩
  rw[h2];rfl
 have hk2:∀k cs,H k=some cs->1<=k:=fun k cs hk=>by
  match k with
  |0=>rw[w.sep.1]at hk;cases hk
  |k+1=>omega
 refine⟨fun k cs hk=>?_,fun k o hk=>?_,w.len,fun a k n h=>?_,w.aH,w.aa,w.sep,fun cs hc es i hi=>?_,fun k o hk=>?_⟩
 ·rw[e k (hk2 k cs hk)];exact w.inO k cs hk
 ·match k with
  |0=>rw[h0]at hk;cases hk;exact hi
  |k+1=>rw[e _ (by omega)]at hk;exact w.ok _ o hk
 ·rw[e k (w.sep.2 a k n h)];exact w.arr a k n h
 ·rw[h0]at hc;cases hc
  rw[h1]at hi
  obtain⟨kt,e1,e2,e3,e4,e5⟩:=w.tk mc rfl es i hi
  exact⟨kt,e1,e2,(e kt e2).trans e3,e4,e5⟩
 ·match k with
  |0=>rw[h0]at hk;cases hk;trivial
  |k+1=>rw[e _ (by omega)]at hk;exact w.pl _ o hk
inductive CR (H:Hm)(nm:Nm2):Ctl->AC->AC->AC->Prop
 |ev (t:Tr) (e:En) (ec vc:AC) (he:ER H nm e ec):CR H nm (.ev t e) (.box (cTr t)) ec vc
 |rt (v:Vl) (ec vc:AC) (hv:VR H nm v vc):CR H nm (.rt v) nilPE ec vc
structure M0 (fu:Int)(fc:FcT)(ou:Outer)(H:Hm)(nm:Nm2)(m:Ms)(tc ec vc kc:AC):Prop where
 ids:tc.ids isO/\ec.ids isO/\vc.ids isO/\kc.ids isO
 m0:ou 0=some (.cells (mC tc ec vc kc m.out m.steps fu fc))
 w:WR ou H nm m.heap
structure MR (fu:Int)(fc:FcT)(ou:Outer)(H:Hm)(nm:Nm2)(m:Ms):Prop where
 ex:∃kt tc ec vc kc,CR H nm m.c tc ec vc/\KR H nm m.k kc/\M0 fu ⟨fc.ac,kt⟩ ou H nm m tc ec vc kc
theorem MR.ok{fu:Int}{fc:FcT}{H:Hm}{nm:Nm2}{m:Ms}{ou:Outer}(h:MR fu fc ou H nm m):OuOk ou:=h.ex.choose_spec.choose_spec.choose_spec.choose_spec.choose_spec.2.2.w.ok
structure PR (ou:Outer)(m:Ms):Prop where
 ok:OuOk ou
 m0:∃tc ec vc kc fu fc,ou 0=some (.cells (mC tc ec vc kc m.out m.steps fu fc))
theorem M0.pr{fu:Int}{fc:FcT}{ou:Outer}{H:Hm}{nm:Nm2}{m:Ms}{tc ec vc kc:AC}(h:M0 fu fc ou H nm m tc ec vc kc):PR ou m:=⟨h.w.ok,⟨_,_,_,_,_,_,h.m0⟩⟩
def StQ (fu:Int)(fc:FcT)(H:Hm)(nm:Nm2)(x:Except Int Ms):FV->Outer->Prop:=fun r ou'=>r=unitF/\∃H' nm' m',x=.ok m'/\Mo H nm H' nm'/\MR fu fc ou' H' nm' m'
def StP (m:Ms)(x:Except Int Ms):List PanicEntry->Outer->Prop:=fun ps ou'=>∃c,x=.error c/\ps=trapE c/\PR ou' m
theorem M0.ouX{fu:Int}{fc:FcT}{ou:Outer}{H:Hm}{nm:Nm2}{m:Ms}{tc ec vc kc:AC}(h:M0 fu fc ou H nm m tc ec vc kc):ou=ouX (mC tc ec vc kc m.out m.steps fu fc) m.out.length ou:=Qc6 h.m0
theorem KR.cell{H:Hm}{nm:Nm2}{t:Tr}{e:En}{d:List Vl}{k:List Fm}{c:AC}(h:KR H nm (.mk t e d::k) c):∃ec dc kc,c=.box [.box (cTr t),ec,.sl 1 dc,kc]/\ER H nm e ec/\VsR H nm d dc/\KR H nm k kc:=by
 cases h with
 |cons _ _ _ _ ec dc kc he hd hk=>exact⟨ec,dc,kc,rfl,he,hd,hk⟩
theorem MR.ofEv{fu:Int}{fc:FcT}{mc:List AC}{n:Nat}{ou0 ou':Outer}{H:Hm}{nm:Nm2}{m:Ms}{e:En}{s:Tr}{k:List Fm}{ec vc kc:AC}(w:WR (ouX mc n ou0) H nm m.heap)(he:ER H nm e ec)(hk:KR H nm k kc)(hv:vc.ids isO)(hf:fc.ids isO)
  (h0:ou' 0=some (.cells (mC (.box (cTr s)) ec vc kc m.out m.steps fu fc))) (h1:mc[4]?=some (.gs 1 (m.out.map cI) (.o fc.kt))) (h2:∀k,ou' (k+1)=ou0 (k+1)):MR fu fc ou' H nm { m with c:=.ev s e,k:=k }:=
 have hi:idsL isO (mC (.box (cTr s)) ec vc kc m.out m.steps fu fc):=by simp[mC,he.ids,hk.ids,hv,hf]
 ⟨fc.kt,_,_,_,_,.ev s e ec vc he,hk,⟨by simp,he.ids,hv,hk.ids⟩,h0,w.put hi h0 h1.symm h2⟩
theorem MR.ofRt{fu:Int}{fc:FcT}{mc:List AC}{n:Nat}{ou0 ou':Outer}{H:Hm}{nm:Nm2}{m:Ms}{v:Vl}{k:List Fm}{ec vc kc:AC}(w:WR (ouX mc n ou0) H nm m.heap)(he:VR H nm v vc)(hk:KR H nm k kc)(hv:ec.ids isO)(hf:fc.ids isO)
  (h0:ou' 0=some (.cells (mC nilPE ec vc kc m.out m.steps fu fc))) (h1:mc[4]?=some (.gs 1 (m.out.map cI) (.o fc.kt))) (h2:∀k,ou' (k+1)=ou0 (k+1)):MR fu fc ou' H nm { m with c:=.rt v,k:=k }:=
 have hi:idsL isO (mC nilPE ec vc kc m.out m.steps fu fc):=by simp[mC,he.ids,hk.ids,hv,hf,nilPE]
 ⟨fc.kt,_,_,_,_,.rt v ec vc he,hk,⟨trivial,hv,he.ids,hk.ids⟩,h0,w.put hi h0 h1.symm h2⟩
theorem Qm4(hΓ:∀g cs,(g,cs)∈Γ->idsL isO cs){fu:Int}{fc:FcT}{fns:List Fun}{ou:Outer}{H:Hm}{nm:Nm2}{m:Ms}{tc0 ec0 vc0 kc0:AC}(h0:M0 fu fc ou H nm m tc0 ec0 vc0 kc0)(hfc:fc.ids isO)
  {t:Tr}{e:En}{d:List Vl}{k:List Fm}{ec:AC}{dc:List (List AC)}{kc:AC}(he:ER H nm e ec) (hd:VsR H nm d dc) (hk:KR H nm k kc){s:Tr}(hlt:d.length < opdN t) (hs:t.kids[d.length]?=some s):
  AFnP Tryz.prog Γ 86 [.one (.ptr (.o 0) 0),.one (.box [.box (cTr t),ec,.sl 1 dc,kc])] ou (StQ fu fc H nm (kidM fu fns m (.mk t e d) k)) (StP m (kidM fu fns m (.mk t e d) k)):=by
 have hoX:=h0.ouX
 have hei:=he.ids
 have hdi:=hd.ids
 have hki:=hk.ids
 have hdl:=hd.len
 rw[hoX]
 have hw:=h0.w
 rw[hoX]at hw
 generalize hmc:ou=ou0 at hw
 clear hoX
 refine AFnP.walk 262 tabOk hΓ Tryz.func86 rfl (by kernel_rfl) rfl rfl fun hou=>?_
 refine zA ?_
 refine ACode.drawX tabOk 10 [(9,.one (int (opdN t)))] follows (by kernel_rfl) rfl rfl rfl rfl ?_ ?_
 ·exact⟨⟨_,rfl,AStep.callPure hΓ rfl rfl rfl (by simp[idsF]) hou (Q46 t)⟩,trivial⟩
 refine zA ?_
 refine ACode.cond rfl (fun hb=>?_) (fun hb=>absurd hb (by simp[hdl];exact hlt))
 refine zA ?_
 have hsc:(Q0v t.kids)[d.length]?=some [.box (cTr s)]:=Q0u hs
 generalize hM:ouX (mC tc0 ec0 vc0 kc0 m.out m.steps fu fc) m.out.length ou0=ou1 at hou hw ⊢
 subst hM
 refine ACode.drawC2 tabOk 28 [24,25,26,27] [(15,.one (.box [.box (cTr s)]))] (fun vs σ=>match vs with
   |[]=>σ=⟨0,[],ouX (mC tc0 ec0 vc0 kc0 m.out m.steps fu fc) m.out.length ou0⟩
   |[_]=>σ=⟨0,[],ouX (mC (.box (cTr s)) ec0 vc0 kc0 m.out m.steps fu fc) m.out.length ou0⟩
   |[_,v]=>v=.one (.ptr (.o 0) 0)/\σ=⟨0,[],ouX (mC (.box (cTr s)) ec0 vc0 kc0 m.out m.steps fu fc) m.out.length ou0⟩
   |[_,v,w]=>v=.one (.ptr (.o 0) 0)/\w=.one (.ptr (.o 0) 1)/\σ=⟨0,[],ouX (mC (.box (cTr s)) ec0 vc0 kc0 m.out m.steps fu fc) m.out.length ou0⟩
   |[_,v,w,_]=>v=.one (.ptr (.o 0) 0)/\w=.one (.ptr (.o 0) 1)/\σ=⟨0,[],ouX (mC (.box (cTr s)) ec vc0 kc0 m.out m.steps fu fc) m.out.length ou0⟩
   |_=>False) follows (by kernel_rfl) rfl rfl (by decide) (by kernel_rfl) (by kernel_rfl) rfl rfl ?_ ?_ (by decide) ?_ ?_
 ·intro vs σ h
  match vs with
  |[]=>subst h;rfl
  |[_]=>subst h;rfl
  |[_,_]=>obtain⟨_,rfl⟩:=h;rfl
  |[_,_,_]=>obtain⟨_,_,rfl⟩:=h;rfl
  |[_,_,_,_]=>obtain⟨_,_,rfl⟩:=h;rfl
  |_::_::_::_::_::_=>exact h.elim
 ·intro vs σ h
  exact⟨⟨_,rfl,zIA rfl rfl rfl (by omega) (by simpa[hdl]using hsc)⟩,trivial⟩
 ·intro vs σ h i o hi ho
  match vs with
  |[]=>subst h;cases hi;cases ho;exact⟨rfl,.inl (.inl ⟨.bot,_,AStep.ofStore tabOk rfl,setX _ _ _ _⟩)⟩
  |[_]=>subst h;cases hi;cases ho;exact⟨rfl,.inl (.inl ⟨_,_,AStep.ofOp tabOk rfl,rfl,rfl⟩)⟩
  |[_,_]=>obtain⟨rfl,rfl⟩:=h;cases hi;cases ho;exact⟨rfl,.inl (.inl ⟨_,_,AStep.ofOp tabOk rfl,rfl,rfl,rfl⟩)⟩
  |[_,_,_]=>obtain⟨rfl,rfl,rfl⟩:=h;cases hi;cases ho;exact⟨rfl,.inl (.inl ⟨.bot,_,AStep.ofStore tabOk rfl,rfl,rfl,setX _ _ _ _⟩)⟩
  |_::_::_::_::_=>cases hi
 ·intro vs σ hl h
  match vs with
  |[_,_,_,_]=>
   obtain⟨rfl,rfl,rfl⟩:=h
   refine zA ?_
   have hM:MR fu fc _ H nm { m with c:=.ev s e,k:=.mk t e d::k }:=MR.ofEv (ou':=(St.set ⟨0,[],ouX (mC (.box (cTr s)) ec vc0 kc0 m.out m.steps fu fc) m.out.length ou0⟩ (.o 0) (.cells (mC (.box (cTr s)) ec vc0 (.box [.box (cTr t),ec,.sl 1 dc,kc]) m.out m.steps fu fc))).ou) hw he (.cons t e d k ec dc kc he hd hk) h0.ids.2.2.1 hfc rfl rfl (fun _=>rfl)
   refine AFn.fin' rfl (WkF.refl _) (by simp) hM.ok ⟨rfl,H,nm,_,?_,.refl _ _,hM⟩
   unfold kidM
   rw[if_pos (show (Fm.mk t e d).done.length < opdN (Fm.mk t e d).t from hlt)]
   simp only[Fm.done_mk,Fm.t_mk,Fm.e_mk]
   rw[List.getD_eq_getElem?_getD,hs]
   rfl
  |[]|[_]|[_,_]|[_,_,_]=>cases hl
  |_::_::_::_::_::_=>exact h.elim
end Go.Proofs.YtkgjldchcbfpnaaGreatDoor
