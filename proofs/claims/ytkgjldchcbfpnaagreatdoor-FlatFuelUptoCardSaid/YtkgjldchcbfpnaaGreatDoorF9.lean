/- A node's list, coreFact, CoreOrdered, walked. -/
import Derived.Test.YtkgjldchcbfpnaaGreatDoorF8
set_option maxRecDepth 10000
set_option linter.unusedVariables false
set_option linter.unusedSimpArgs false
namespace Go.Proofs.YtkgjldchcbfpnaaGreatDoor
open Go Go.Abs Go.CoreX
variable {Γ:List (Nat×List AC)}
theorem Q7j(hΓ:∀g cs,(g,cs)∈Γ->idsL isO cs)(t:Tr)(ht:okT t)(hsz:(listT [] t).length<=1048576):APure Tryz.prog Γ 39 [.one (.box (cNd t))] (.one (.sl 5 ((listT [] t).map cEx))):=by
 intro ou
 refine AFn.walk 7 tabOk Tryz.func39 rfl (by kernel_rfl) rfl rfl fun hou=>?_
 iterate 11 (first|((with_reducible refine oj ?_);refine zau ?_)|(with_reducible refine zst ?_)|((with_reducible refine Q0t ?_ ?_);rfl)|(with_reducible refine ok ?_;first|refine ACode.condT rfl ?_|refine ACode.condF rfl ?_))
 refine ACode.grow 0 0 75 5 rfl rfl ?_
 refine zA ?_
 refine AOps.cede 0 (show 0 < 2 by omega) fun ko hko=>⟨[(4,.one (.box (cNd t))),(3,.one (.ptr (.o ko) 0))],
  ⟨2, [(1, .tok 75 5 0)], updO ou ko (.cells [.gs 5 [] (.l 1)])⟩, ⟨CedFr.get ?_, rfl, fun i x hx => ?_⟩, ?_⟩
 ·exact .cons rfl (FV.sub_o _ (by simp)) (.cons rfl rfl .nil)
 ·have hko:ou ko=none:=hko
  cases i with
  |l m=>
   by_cases e:1=m
   ·subst e;cases hx;exact⟨.l 1,_,rfl,rfl,rfl⟩
   ·simp[St.get,lookL,Q08 e]at hx
  |o m=>
   have hx':updO ou ko (.cells [.gs 5 [] (.l 1)]) m=some x:=hx
   by_cases e:ko=m
   ·subst e;rw[Q03]at hx';cases hx';exact⟨.l 0,_,rfl,rfl,rfl⟩
   ·rw[Q05 _ e]at hx'
    exact⟨.o m,x,hx',rfl,(AObj.sub_o x (hou m x hx')).symm⟩
 have hko:ou ko=none:=hko
 refine AOps.cede 1 (show 1 < 2 by omega) fun kt hkt=>⟨[(4,.one (.box (cNd t))),(3,.one (.ptr (.o ko) 0))],
  ⟨2, [], ouS ou ko kt (([] : List Ex).map cEx)⟩, ⟨CedFr.get ?_, rfl, fun i x hx => ?_⟩, ?_⟩
 ·exact .cons rfl (FV.sub_o _ (by simp)) (.cons rfl rfl .nil)
 ·have hkt:updO ou ko (.cells [.gs 5 [] (.l 1)]) kt=none:=hkt
  have hkto:ko≠kt:=fun e=>by subst e;rw[Q03]at hkt;cases hkt
  cases i with
  |l m=>cases hx
  |o m=>
   have hx':ouS ou ko kt (([]:List Ex).map cEx) m=some x:=hx
   by_cases e:m=kt
   ·subst e;rw[ouS_t]at hx';cases hx';exact⟨.l 1,_,rfl,rfl,rfl⟩
   ·by_cases e2:m=ko
    ·subst e2;rw[ouS_o hkto]at hx';cases hx'
     exact⟨.o m,.cells [.gs 5 [] (.l 1)],Q03 _ _ _,rfl,rfl⟩
    ·rw[ouS_w e2 e]at hx'
     refine⟨.o m,x,?_,rfl,(AObj.sub_o x (hou m x hx')).symm⟩
     show updO ou ko (.cells [.gs 5 [] (.l 1)]) m=_
     rw[Q05 _ (Ne.symm e2)];exact hx'
 have hkt:updO ou ko (.cells [.gs 5 [] (.l 1)]) kt=none:=hkt
 have hot:ko≠kt:=fun e=>by subst e;rw[Q03]at hkt;cases hkt
 rw[Q05 _ hot]at hkt
 have hcall:=Qga hΓ t ht ou ko kt [] hou hko hkt hot hsz
 refine AOps.call1 hΓ rfl rfl rfl rfl rfl rfl rfl (by simp) (Qcc hou (by simp)) hcall fun r ou' hq hids hou'=>?_
 obtain⟨rfl,kt',h1,h2,rfl⟩:=hq
 refine zA ?_
 refine zS (zLD rfl rfl (ouS_o h2 _) rfl) ?_
 refine AOps.wk 6 rfl (y:=.one (.sl 5 ((listT [] t).map cEx))) (.one (.gsE rfl)) ?_
 refine AOps.lessO ⟨2,[],ou⟩ rfl (fun i o ho=>?_) ?_
 ·cases i with
  |l m=>cases ho
  |o m=>
   have ho':ou m=some o:=ho
   show ouS ou ko kt' _ m=some o
   have e1:m≠ko:=fun e=>by rw[e,hko]at ho';cases ho'
   have e3:m≠kt':=fun e=>by rw[←e,ho']at h1;cases h1
   rw[ouS_w e1 e3];exact ho'
 refine zA ?_
 exact APure.fin rfl (WkF.ofEq rfl) (by simp) hou rfl
end Go.Proofs.YtkgjldchcbfpnaaGreatDoor
namespace Go.CoreX
def Q9q (e:List Ex)(k:Nat):Tr:=(growL e).getD k default
theorem Q6k{e:List Ex}(hk:Q15 e){i:Nat}{x:Ex}(hx:e[i]?=some x):Q9q e i=.mk x.op x.n x.binds (x.kids.map fun k=>Q9q e k.toNat) x.alts:=by
 have hi:=(List.getElem?_eq_some_iff.1 hx).1
 have hs:e=e.take i++x::e.drop (i+1):=by
  obtain⟨h2,h3⟩:=List.getElem?_eq_some_iff.1 hx
  rw[←h3,←List.drop_eq_getElem_cons h2,List.take_append_drop]
 have hl:(e.take i).length=i:=by simp;omega
 have h1:=Q6b (e.take i) (e.drop (i+1)) x
 rw[←hs,hl]at h1
 unfold Q9q
 rw[h1]
 simp only[Q2i,Tr.mk.injEq,true_and,and_true]
 refine List.map_congr_left fun k hkk=>?_
 have hb:=hk i x hx k hkk
 have h2:=Q3w (e:=e.take i) (l:=x::e.drop (i+1)) (i:=k.toNat) (by rw[hl];omega)
 rw[←hs]at h2
 exact h2.symm
end Go.CoreX
namespace Go.Proofs.YtkgjldchcbfpnaaGreatDoor
open Go Go.Abs Go.CoreX
variable {Γ:List (Nat×List AC)}
end Go.Proofs.YtkgjldchcbfpnaaGreatDoor
namespace Go.CoreX
mutual
def cntN:Tr->Nat
 |.mk _ _ _ k _=>cntNs k+1
def cntNs:List Tr->Nat
 |[]=>0
 |t::l=>cntN t+cntNs l
end
mutual
theorem Qah:∀(t:Tr)(out:List Ex),(listT out t).length=out.length+cntN t
 |.mk o n b k a,out=>by
  have:=Q8c k out
  simp only[listT,cntN,List.length_append,List.length_singleton];omega
theorem Q8c:∀(l:List Tr)(out:List Ex),(Q04 out l).1.length=out.length+cntNs l
 |[],out=>by simp[Q04,cntNs]
 |t::l,out=>by
  have h1:=Qah t out
  have h2:=Q8c l (listT out t)
  simp only[Q04,cntNs];omega
end
end Go.CoreX
namespace Go.Proofs.YtkgjldchcbfpnaaGreatDoor
open Go Go.Abs Go.CoreX
variable {Γ:List (Nat×List AC)}
end Go.Proofs.YtkgjldchcbfpnaaGreatDoor
namespace Go.CoreX
end Go.CoreX
namespace Go.Proofs.YtkgjldchcbfpnaaGreatDoor
open Go Go.Abs Go.CoreX
variable {Γ:List (Nat×List AC)}
def ow8 (l:List Int):Option Nat->AC
 |none=>.lit (.slice none 0 0)
 |some cap=>.arr (.l 0) 1 0 (l.map cI).length cap
def st8 (l:List Int)(ou:Outer):Option Nat->St
 |none=>⟨0,[],ou⟩
 |some cap=>⟨1,[(0,.cells (vec 1 (l.map cI) cap))],ou⟩
def d8 (l:List Int)(ou:Outer):Option Nat->St
 |none=>st8 l ou none
 |some cap=>(st8 l ou (some cap)).set (.l 0) .dead
@[simp] theorem ids_ow8 (l l':List Int) (ou:Outer) (oc:Option Nat):(ow8 l oc).ids (inL (st8 l' ou oc).n):=by cases oc <;> simp[ow8,st8,AC.ids,inL]
end Go.Proofs.YtkgjldchcbfpnaaGreatDoor
namespace Go.CoreX
end Go.CoreX
namespace Go.Proofs.YtkgjldchcbfpnaaGreatDoor
open Go Go.Abs Go.CoreX
variable {Γ:List (Nat×List AC)}
end Go.Proofs.YtkgjldchcbfpnaaGreatDoor
namespace Go.CoreX
open Go.Abs (orI subI anI)
def ex0:Ex:=⟨0,0,[],[],[]⟩
def exN (e:List Ex)(i:Nat):Ex:=e.getD i ex0
def shK (e:List Ex)(k:Int):Tr:=.mk (exN e k.toNat).op (exN e k.toNat).n (exN e k.toNat).binds [] []
end Go.CoreX
namespace Go.Proofs.YtkgjldchcbfpnaaGreatDoor
open Go Go.Abs Go.CoreX
variable {Γ:List (Nat×List AC)}
def shD (e:List Ex)(l:List Int):List (List AC):=l.map fun k=>cB (shK e k)
@[simp] theorem ids_shD (p:Abs.Id->Prop) (e:List Ex) (l:List Int):idsS p (shD e l):=Q1r (fun k=>by simp[cB]) l
@[simp] theorem ren_shD (ρ:Nat->Nat) (e:List Ex) (l:List Int):renS ρ (shD e l)=shD e l:=Q1f ρ _ (by simp)
end Go.Proofs.YtkgjldchcbfpnaaGreatDoor
namespace Go.CoreX
end Go.CoreX
namespace Go.Proofs.YtkgjldchcbfpnaaGreatDoor
open Go Go.Abs Go.CoreX
variable {Γ:List (Nat×List AC)}
theorem W_ok(hΓ:∀g cs,(g,cs)∈Γ->idsL isO cs)(n:Int):APure Tryz.prog Γ 40 [.one (int n)] (.one (.box (cNd (.mk 1 n [] [] [])))):=by
 intro ou
 refine AFn.walk 5 tabOk Tryz.func40 rfl (by kernel_rfl) rfl rfl fun hou=>?_
 refine zA ?_
 refine AOps.callCW (ws:=[.one (int 1),.one (int n),.one (.sl 1 (Q2v []))]) hΓ (N_ok 1 n []) rfl rfl rfl rfl rfl rfl ?_ hou (by simp) ?_
 ·exact .cons (.refl _) (.cons (.refl _) (.cons (.one (.nilS 1)) .nil))
 refine zA ?_
 exact APure.fin rfl (WkF.ofEq rfl) (by simp) hou rfl
end Go.Proofs.YtkgjldchcbfpnaaGreatDoor
namespace Go.CoreX
abbrev Nb:=Option (Nat×Nat)
structure LAlt where
 tag:Int
 nb:Nb
 binds:List Int
def LAlt.er (a:LAlt):Alt:=⟨a.tag,a.binds⟩
inductive LTr where
 |mk (id:Nat) (op n:Int) (nb:Nb) (binds:List Int) (kids:List LTr) (alts:List LAlt)
instance:Inhabited LTr:=⟨.mk 0 0 0 none [] [] []⟩
def LTr.id:LTr->Nat|.mk i _ _ _ _ _ _=>i
mutual
def erT:LTr->Tr
 |.mk _ o n _ b k a=>.mk o n b (erTs k) (a.map LAlt.er)
def erTs:List LTr->List Tr
 |[]=>[]
 |t::ts=>erT t::erTs ts
end
theorem Qgx:∀l:List LTr,erTs l=l.map erT
 |[]=>rfl
 |t::l=>by simp[erTs,Qgx l]
end Go.CoreX
namespace Go.Proofs.YtkgjldchcbfpnaaGreatDoor
open Go Go.Abs Go.CoreX
variable {Γ:List (Nat×List AC)}
def bC:Nb->List Int->AC
 |none,l=>.sl 1 (l.map cI)
 |some (a,cap),l=>.arr (.o a) 1 0 (l.map cI).length cap
def lAlt (x:LAlt):List AC:=[int x.tag,bC x.nb x.binds]
def kC (l:List LTr):List (List AC):=l.map fun t=>[.ptr (.o t.id) 0]
abbrev keys (l:List (Nat×AObj)):List Nat:=l.map (·.1)
def Owns (ou:Outer)(l:List (Nat×AObj)):Prop:=∀p∈l,ou p.1=some p.2
theorem Owns.app{ou:Outer}{l r:List (Nat×AObj)}:Owns ou (l++r)↔Owns ou l/\Owns ou r:=by
 unfold Owns
 constructor
 ·exact fun h=>⟨fun p hp=>h p (by simp[hp]),fun p hp=>h p (by simp[hp])⟩
 ·rintro⟨h1,h2⟩ p hp
  rcases List.mem_append.1 hp with hp|hp
  ·exact h1 p hp
  ·exact h2 p hp
theorem Owns.frame{ou ou':Outer}{l:List (Nat×AObj)}(h:Owns ou l)(hf:∀j∈keys l,ou' j=ou j):Owns ou' l:=fun p hp=>(hf p.1 (List.mem_map_of_mem hp)).trans (h p hp)
theorem Qgk(p:Abs.Id->Prop)(hp:∀k,p (.o k))(nb:Nb)(l:List Int):(bC nb l).ids p:=by
 cases nb with
 |none=>simp[bC,AC.ids]
 |some x=>exact hp _
theorem ids_kC(p:Abs.Id->Prop)(hp:∀k,p (.o k))(l:List LTr):idsS p (kC l):=Q1r (f:=fun t:LTr=>[.ptr (.o t.id) 0]) (fun t=>by simp only[idsL,AC.ids,and_true];exact hp _) l
theorem Qa7(p:Abs.Id->Prop)(hp:∀k,p (.o k))(l:List LAlt):idsS p (l.map lAlt):=Q1r (f:=lAlt) (fun t=>by simp only[lAlt,idsL,AC.ids,and_true,true_and];exact Qgk p hp _ _) l
end Go.Proofs.YtkgjldchcbfpnaaGreatDoor
namespace Go.CoreX
def frB (f:Int)(l:List Int):List Int:=(List.range l.length).map fun i:Nat=>f+i
def frN (m:Nm)(f:Int)(l:List Int):Nm:=putsN m l (frB f l)
end Go.CoreX
namespace Go.Proofs.YtkgjldchcbfpnaaGreatDoor
open Go Go.Abs Go.CoreX
variable {Γ:List (Nat×List AC)}
end Go.Proofs.YtkgjldchcbfpnaaGreatDoor
namespace Go.CoreX
def rnAs (nm:Nm)(f:Int):List LAlt->List LAlt×Nm×Int
 |[]=>([],nm,f)
 |x::l=>(⟨x.tag,x.nb,frB f x.binds⟩::(rnAs (frN nm f x.binds) (f+x.binds.length) l).1,(rnAs (frN nm f x.binds) (f+x.binds.length) l).2)
def ren1 (o:Int)(nm:Nm)(f:Int)(b:List Int):List Int×Nm×Int:=if o=9 then (b,nm,f)else (frB f b,frN nm f b,f+b.length)
mutual
def rnL (nm:Nm)(f:Int):LTr->LTr×Nm×Int
 |.mk i o n nb b k a=>
  let s1:=ren1 o nm f b
  let s2:=rnAs s1.2.1 s1.2.2 a
  let s3:=rnLs s2.2.1 s2.2.2 k
  (.mk i o (if o=0 then (nm n).getD n else n) nb s1.1 s3.1 s2.1,s3.2)
def rnLs (nm:Nm)(f:Int):List LTr->List LTr×Nm×Int
 |[]=>([],nm,f)
 |t::l=>((rnL nm f t).1::(rnLs (rnL nm f t).2.1 (rnL nm f t).2.2 l).1,(rnLs (rnL nm f t).2.1 (rnL nm f t).2.2 l).2)
end
def ownB (nb:Nb)(b:List Int):Prop:=nb=none->b=[]
mutual
def okL:LTr->Prop
 |.mk _ o _ nb b k a=>(o≠9->ownB nb b)/\b.length<=1048576/\k.length<=1048576/\a.length<=1048576/\(∀x∈a,ownB x.nb x.binds/\x.binds.length<=1048576)/\okLs k
def okLs:List LTr->Prop
 |[]=>True
 |t::l=>okL t/\okLs l
end
theorem Qcf:∀{l:List LTr},okLs l↔∀t∈l,okL t
 |[]=>by simp[okLs]
 |t::l=>by simp[okLs,Qcf (l:=l)]
end Go.CoreX
namespace Go.Proofs.YtkgjldchcbfpnaaGreatDoor
open Go Go.Abs Go.CoreX
variable {Γ:List (Nat×List AC)}
theorem Q92(l r:List (Nat×AObj)):keys (l++r)=keys l++keys r:=by simp[keys]
theorem Qi7{ou:Outer}{k:Nat}{os:List AObj}(h:OuOk ou)(ho:∀o∈os,o.ids isO):OuOk (ouAdd ou k os):=by
 intro m o hm
 rcases Nat.lt_or_ge m k with h1|h1
 ·rw[Q24 h1]at hm;exact h m o hm
 ·obtain⟨p,rfl⟩:∃p,m=k+p:=⟨m - k,by omega⟩
  rw[Q2q]at hm
  exact ho o (List.mem_of_getElem? hm)
structure NewO (ou ou':Outer)(L:List (Nat×AObj)):Prop where
 own:Owns ou' L
 new:∀k∈keys L,ou k=none
 old:∀m,m∉keys L->ou' m=ou m
 ok:OuOk ou'
 nd:(keys L).Nodup
theorem NewO.nil{ou:Outer}(h:OuOk ou):NewO ou ou []:=⟨fun p hp=>by simp at hp,fun k hk=>by simp[keys]at hk,fun _ _=>rfl,h,by simp[keys]⟩
theorem NewO.trans{ou ou1 ou2:Outer}{L M:List (Nat×AObj)}(h:NewO ou ou1 L)(k:NewO ou1 ou2 M):NewO ou ou2 (L++M):=by
 have hLM:∀j∈keys L,j∉keys M:=fun j hj hm=>by
  have h1:=k.new j hm
  obtain⟨p,hp,rfl⟩:=List.mem_map.1 hj
  rw[h.own p hp]at h1
  cases h1
 refine⟨Owns.app.2 ⟨h.own.frame fun j hj=>k.old j (hLM j hj),k.own⟩,fun j hj=>?_,fun m hm=>?_,k.ok,?_⟩
 ·rw[Q92,List.mem_append]at hj
  by_cases e:j∈keys L
  ·exact h.new j e
  ·rw[←h.old j e]
   exact k.new j (hj.resolve_left e)
 ·rw[Q92,List.mem_append,not_or]at hm
  rw[k.old m hm.2,h.old m hm.1]
 ·rw[Q92,List.nodup_append]
  exact⟨h.nd,k.nd,fun a ha b hb e=>hLM a ha (e▸hb)⟩
end Go.Proofs.YtkgjldchcbfpnaaGreatDoor
namespace Go.CoreX
end Go.CoreX
namespace Go.Proofs.YtkgjldchcbfpnaaGreatDoor
open Go Go.Abs Go.CoreX
structure LinkL (e:List Ex)(lts:List LTr)(B:Nb->List Int->Prop:=ownB):Prop where
 len:lts.length=e.length
 at_:∀(i:Nat) (x:Ex),e[i]?=some x->∃id nb a,lts[i]?=some (.mk id x.op x.n nb x.binds (x.kids.map fun q=>lts.getD q.toNat default) a)/\a.map LAlt.er=x.alts/\B nb x.binds/\∀y∈a,B y.nb y.binds
theorem LinkL.nil{B:Nb->List Int->Prop}:LinkL [] [] B:=⟨rfl,fun i x h=>by simp at h⟩
section
variable {e:List Ex}{lts:List LTr}{B:Nb->List Int->Prop}
theorem LinkL.getD(h:LinkL e lts B){i:Nat}{t:LTr}(ht:lts[i]?=some t):lts.getD i default=t:=by rw[List.getD_eq_getElem?_getD,ht];rfl
theorem LinkL.er(h:LinkL e lts B)(hk:Q15 e):∀(n i:Nat)(t:LTr),i < n->lts[i]?=some t->erT t=Q9q e i
 |0,i,t,hi,_=>by omega
 |n+1,i,t,hi,ht=>by
  have hil:i < e.length:=by rw[←h.len];exact (List.getElem?_eq_some_iff.1 ht).1
  obtain⟨x,hx⟩:=Q01 hil
  obtain⟨id,nb,a,h1,h2,_⟩:=h.at_ i x hx
  rw[ht]at h1
  cases h1
  rw[Q6k hk hx]
  simp only[erT,h2,Qgx,List.map_map]
  congr 1
  refine List.map_congr_left fun q hq=>?_
  have hq':=hk i x hx q hq
  obtain⟨t',ht'⟩:=Q01 (l:=lts) (i:=q.toNat) (by rw[h.len];omega)
  simp only[Function.comp,h.getD ht']
  exact h.er hk n q.toNat t' (by omega) ht'
theorem LinkL.ok(h:LinkL e lts)(hk:Q15 e)(hs:∀x∈e,x.binds.length<=1048576/\x.kids.length<=1048576/\x.alts.length<=1048576/\∀a∈x.alts,a.binds.length<=1048576):∀(n i:Nat)(t:LTr),i < n->lts[i]?=some t->okL t
 |0,i,t,hi,_=>by omega
 |n+1,i,t,hi,ht=>by
  have hil:i < e.length:=by rw[←h.len];exact (List.getElem?_eq_some_iff.1 ht).1
  obtain⟨x,hx⟩:=Q01 hil
  obtain⟨id,nb,a,h1,h2,h3,h4⟩:=h.at_ i x hx
  obtain⟨s1,s2,s3,s4⟩:=hs x (List.mem_of_getElem? hx)
  rw[ht]at h1
  cases h1
  refine⟨fun _=>h3,s1,by simpa using s2,by have:=congrArg List.length h2;simp at this;omega,fun y hy=>⟨h4 y hy,?_⟩,Qcf.2 fun u hu=>?_⟩
  ·exact s4 y.er (by rw[←h2];exact List.mem_map_of_mem hy)
  ·obtain⟨q,hq,rfl⟩:=List.mem_map.1 hu
   have hq':=hk i x hx q hq
   obtain⟨t',ht'⟩:=Q01 (l:=lts) (i:=q.toNat) (by rw[h.len];omega)
   rw[h.getD ht']
   exact h.ok hk hs n q.toNat t' (by omega) ht'
end
variable {Γ:List (Nat×List AC)}
def Qfv (ts:List LTr)(n:Nat):List AC:=ts.map (fun t=>.ptr (.o t.id) 0)++List.replicate (n - ts.length) (.lit (.pointer none))
theorem Q82(p:Abs.Id->Prop)(hp:∀k,p (.o k))(ts:List LTr)(n:Nat):idsL p (Qfv ts n):=by
 refine Q6a ?_ (Qgd p _ _)
 induction ts with
 |nil=>trivial
 |cons t ts ih=>exact⟨hp _,ih⟩
@[simp] theorem ids_nodesL_l (k:Nat) (ts:List LTr) (n:Nat):idsL (inL k) (Qfv ts n):=Q82 _ (fun _=>trivial) ts n
@[simp] theorem ids_nodesL_o (ts:List LTr) (n:Nat):idsL isO (Qfv ts n):=Q82 _ (fun _=>trivial) ts n
@[simp] theorem ids_kC_l (k:Nat) (ts:List LTr):idsS (inL k) (kC ts):=ids_kC _ (fun _=>trivial) ts
@[simp] theorem Qik (ts:List LTr):idsS isO (kC ts):=ids_kC _ (fun _=>trivial) ts
@[simp] theorem ids_lAlts_l (k:Nat) (l:List LAlt):idsS (inL k) (l.map lAlt):=Qa7 _ (fun _=>trivial) l
@[simp] theorem Qb7 (l:List LAlt):idsS isO (l.map lAlt):=Qa7 _ (fun _=>trivial) l
@[simp] theorem ids_bC_l (k:Nat) (nb:Nb) (l:List Int):(bC nb l).ids (inL k):=Qgk _ (fun _=>trivial) nb l
@[simp] theorem ids_bC_o (nb:Nb) (l:List Int):(bC nb l).ids isO:=Qgk _ (fun _=>trivial) nb l
@[simp] theorem ren_kC (ρ:Nat->Nat) (l:List LTr):renS ρ (kC l)=kC l:=Q1f ρ _ (Qik l)
@[simp] theorem ren_lAlts (ρ:Nat->Nat) (l:List LAlt):renS ρ (l.map lAlt)=l.map lAlt:=Q1f ρ _ (Qb7 l)
@[simp] theorem ren_bC (ρ:Nat->Nat) (nb:Nb) (l:List Int):(bC nb l).ren ρ=bC nb l:=by cases nb <;> simp[bC,AC.ren,Abs.Id.ren]
theorem NewO.add{ou:Outer}{k:Nat}{o:AObj}(hk:∀m,k<=m->ou m=none)(hou:OuOk ou)(ho:o.ids isO):NewO ou (ouAdd ou k [o]) [(k,o)]:=by
 refine⟨fun p hp=>?_,fun j hj=>?_,fun m hm=>?_,Qi7 hou fun q hq=>by simp at hq;subst hq;exact ho,by simp[keys]⟩
 ·simp at hp;subst hp
  exact Q2q 0
 ·simp[keys]at hj;subst hj;exact hk _ (Nat.le_refl _)
 ·simp[keys]at hm
  rcases Nat.lt_or_ge m k with h1|h1
  ·exact Q24 h1
  ·obtain⟨p,rfl⟩:∃p,m=k+p:=⟨m - k,by omega⟩
   rw[Q2q,hk _ h1]
   cases p with
   |zero=>simp at hm
   |succ p=>simp
end Go.Proofs.YtkgjldchcbfpnaaGreatDoor
namespace Go.CoreX
end Go.CoreX
namespace Go.Proofs.YtkgjldchcbfpnaaGreatDoor
open Go Go.Abs Go.CoreX
variable {Γ:List (Nat×List AC)}
end Go.Proofs.YtkgjldchcbfpnaaGreatDoor
namespace Go.CoreX
-- What holds of all nodes.
mutual
def allT (p:Lab->Prop):Tr->Prop
 |.mk o n b k a=>p ⟨o,n,b,k.map Tr.op,a⟩/\allTs p k
def allTs (p:Lab->Prop):List Tr->Prop
 |[]=>True
 |t::l=>allT p t/\allTs p l
end
theorem Q7h{p:Lab->Prop}:∀{l:List Tr},allTs p l↔∀t∈l,allT p t
 |[]=>by simp[allTs]
 |t::l=>by simp[allTs,Q7h (l:=l)]
theorem Qh9{e:List Ex}(hk:Q15 e){p:Lab->Prop}(h:∀x∈e,p (labE e x)):∀(n i:Nat),i < n->i < e.length->allT p (Q9q e i)
 |0,i,hi,_=>by omega
 |n+1,i,hi,hl=>by
  obtain⟨x,hx⟩:∃x,e[i]?=some x:=⟨e[i],List.getElem?_eq_getElem hl⟩
  rw[Q6k hk hx]
  refine⟨?_,Q7h.2 fun t ht=>?_⟩
  ·have:=h x (List.mem_of_getElem? hx)
   simp only[labE]at this
   simp only[List.map_map]
   exact this
  ·obtain⟨q,hq,rfl⟩:=List.mem_map.1 ht
   have:=hk i x hx q hq
   exact Qh9 hk h n q.toNat (by omega) (by omega)
theorem Qh8{e:List Ex}(h:IsTree e){p:Lab->Prop}(hp:∀x∈e,p (labE e x)):allT p (grow e):=by
 have:=List.length_pos_iff.2 h.ne
 exact Qh9 h.k hp _ (e.length - 1) (Nat.lt_succ_self _) (by omega)
end Go.CoreX
namespace Go.CoreX
structure ShN (o n:Int)(b:List Int)(k:Nat)(a:List Alt):Prop where
 sh:∃ops:List Int,ops.length=k/\shape ⟨o,n,b,ops,a⟩=true
section
variable {o n:Int}{b:List Int}{k:Nat}{a:List Alt}
theorem ShN.want(h:ShN o n b k a)(h7:¬(o=7∨o=13)):∃w:Int×Int×Bool,(∃ops:List Int,ops.length=k/\wants ⟨o,n,b,ops,a⟩=some w)/\(k:Int)=w.1/\(b.length:Int)=w.2.1/\a=[]:=by
 obtain⟨ops,hl,h⟩:=h.sh
 unfold shape at h
 rw[if_neg h7]at h
 split at h
 ·cases h
 ·rename_i kk bb u hw
  simp only[Bool.and_eq_true,beq_iff_eq,List.length_eq_zero_iff]at h
  exact⟨_,⟨ops,hl,hw⟩,by rw[←hl];exact h.1.1.1,h.1.1.2,h.1.2⟩
theorem ShN.lam(h:ShN 2 n b k a):k=1/\a=[]:=by
 obtain⟨w,⟨ops,hl,hw⟩,h1,h2,h3⟩:=h.want (by omega)
 cases hw;exact⟨by simp at h1;omega,h3⟩
theorem ShN.app(h:ShN 3 n b k a):1<=k/\b=[]/\a=[]:=by
 obtain⟨w,⟨ops,hl,hw⟩,h1,h2,h3⟩:=h.want (by omega)
 cases hw
 refine⟨?_,List.length_eq_zero_iff.1 (by simp at h2;simp[h2]),h3⟩
 simp only at h1;split at h1 <;> omega
theorem ShN.lett(h:ShN 4 n b k a):k=2/\b.length=1/\a=[]:=by
 obtain⟨w,⟨ops,hl,hw⟩,h1,h2,h3⟩:=h.want (by omega)
 cases hw;exact⟨by simp at h1;omega,by simp at h2;omega,h3⟩
theorem ShN.recs(h:ShN 5 n b k a):k=b.length+1/\1<=b.length/\a=[]:=by
 obtain⟨w,⟨ops,hl,hw⟩,h1,h2,h3⟩:=h.want (by omega)
 cases hw
 refine⟨by simp at h1;omega,?_,h3⟩
 simp only at h2;split at h2 <;> omega
theorem ShN.prim(h:ShN 8 n b k a):0<=n/\n<=11/\(k:Int)=Q2j.getD n.toNat 0/\b=[]/\a=[]:=by
 obtain⟨w,⟨ops,hl,hw⟩,h1,h2,h3⟩:=h.want (by omega)
 have hw:(if between n 0 11=true then some (Q2j.getD n.toNat 0,(0:Int),true)else none)=some w:=hw
 split at hw
 ·rename_i hb
  cases hw
  simp[between]at hb
  exact⟨hb.1,hb.2,h1,List.length_eq_zero_iff.1 (by simp at h2;simp[h2]),h3⟩
 ·cases hw
theorem ShN.row(h:ShN 9 n b k a):k=b.length/\a=[]:=by
 obtain⟨w,⟨ops,hl,hw⟩,h1,h2,h3⟩:=h.want (by omega)
 cases hw;exact⟨by simp at h1;omega,h3⟩
theorem ShN.one(h:ShN o n b k a)(ho:o=10∨o=12∨o=16):k=1/\b=[]/\a=[]:=by
 obtain⟨w,⟨ops,hl,hw⟩,h1,h2,h3⟩:=h.want (by omega)
 rcases ho with rfl|rfl|rfl <;> (cases hw;exact⟨by simp at h1;omega,List.length_eq_zero_iff.1 (by simp at h2;simp[h2]),h3⟩)
theorem ShN.two(h:ShN 11 n b k a):k=2/\b=[]/\a=[]:=by
 obtain⟨w,⟨ops,hl,hw⟩,h1,h2,h3⟩:=h.want (by omega)
 cases hw;exact⟨by simp at h1;omega,List.length_eq_zero_iff.1 (by simp at h2;simp[h2]),h3⟩
theorem ShN.alts7(h:ShN o n b k a)(ho:o=7∨o=13):k=1+a.length/\b=[]/\(o=13->1<=a.length)/\∀i x,a[i]?=some x->Q42 ⟨o,n,b,[],a⟩ i x=false:=by
 obtain⟨ops,hl,h⟩:=h.sh
 unfold shape at h
 rw[if_pos ho]at h
 simp only[Bool.and_eq_true,beq_iff_eq,List.length_eq_zero_iff]at h
 obtain⟨⟨h1,h2⟩,h3⟩:=h
 unfold Q64 at h1
 simp only[Bool.and_eq_true,Bool.not_eq_true',beq_iff_eq,Bool.or_eq_true,decide_eq_true_eq]at h1
 obtain⟨h4,h5,h6⟩:=h1
 refine⟨by omega,h2,fun h13=>?_,fun i x hx=>?_⟩
 ·rcases h6 with h6|h6
  ·subst h13;cases h6
  ·omega
 ·rw[List.any_eq_false]at h4
  have:=h4 (x,i) (by rw[List.mk_mem_zipIdx_iff_getElem?];exact hx)
  simpa[Q42]using this
theorem ShN.case(h:ShN 7 n b k a):k=1+a.length/\b=[]:=⟨(h.alts7 (.inl rfl)).1,(h.alts7 (.inl rfl)).2.1⟩
theorem ShN.handle(h:ShN 13 n b k a):k=1+a.length/\b=[]/\1<=a.length/\∀i x,a[i]?=some x->(i=0↔x.tag=-1)/\x.binds.length=if i=0 then 1 else 2:=by
 obtain⟨h1,h2,h3,h4⟩:=h.alts7 (.inr rfl)
 refine⟨h1,h2,h3 rfl,fun i x hx=>?_⟩
 have:=h4 i x hx
 simp only[Q42,Bool.or_eq_false_iff,Bool.and_eq_false_iff,Bool.not_eq_false',beq_iff_eq,beq_eq_false_iff_ne]at this
 obtain⟨_,h5,h6⟩:=this
 refine⟨?_,?_⟩
 ·rcases h5 with h5|h5
  ·exact absurd rfl h5
  ·by_cases hi:i=0
   ·subst hi;simpa using h5
   ·have:((i:Int)==0)=false:=by simp[hi]
    rw[this]at h5
    simp[hi]at h5 ⊢;exact h5
 ·rcases h6 with h6|h6
  ·exact absurd rfl h6
  ·split at h6
   ·rw[if_neg (by omega)];omega
   ·rename_i hh
    have:i=0∨i=1:=by omega
    rcases this with rfl|rfl <;> simp <;> omega
end
def shpQ (l:Lab):Prop:=ShN l.op l.n l.binds l.ops.length l.alts
theorem Qf1{t:Tr}(h:allT shpQ t):ShN t.op t.n t.binds t.kids.length t.alts:=by
 cases t with
 |mk o n b k a=>simpa[shpQ]using h.1
theorem Qj4{p:Lab->Prop}{t s:Tr}(h:allT p t)(hs:s∈t.kids):allT p s:=by
 cases t with
 |mk o n b k a=>exact Q7h.1 h.2 s hs
theorem Q2n{p:Lab->Prop}{t:Tr}(h:allT p t){i:Nat}(hi:i < t.kids.length):allT p (t.kids.getD i default):=by
 rw[List.getD_eq_getElem?_getD,List.getElem?_eq_getElem hi]
 exact Qj4 h (List.getElem_mem hi)
theorem Q0x{p:Lab->Prop}{t:Tr}(h:allT p t):p ⟨t.op,t.n,t.binds,t.kids.map Tr.op,t.alts⟩:=by
 cases t with
 |mk o n b k a=>exact h.1
mutual
theorem Qd9{p q:Lab->Prop}(h:∀l,p l->q l):∀t:Tr,allT p t->allT q t
 |.mk o n b k a,ht=>⟨h _ ht.1,Qao h k ht.2⟩
theorem Qao{p q:Lab->Prop}(h:∀l,p l->q l):∀l:List Tr,allTs p l->allTs q l
 |[],_=>trivial
 |t::l,ht=>⟨Qd9 h t ht.1,Qao h l ht.2⟩
end
theorem Qf0{l:Lab}(h:shape ⟨l.op,l.n,l.binds,l.ops,l.alts⟩=true):shpQ l:=⟨⟨l.ops,rfl,h⟩⟩
end Go.CoreX
namespace Go.CoreX
-- Names that a tree does not bind keep their new names.
end Go.CoreX
namespace Go.CoreX
def tl (a:Alt):Int×Nat:=(a.tag,a.binds.length)
end Go.CoreX
namespace Go.CoreX
theorem sum0{α:Type}{f:α->Int}:∀{l:List α},(∀x∈l,0<=f x)->(l.map f).sum=0->∀x∈l,f x=0
 | [], _, _, x, hx => by simp at hx
 |y::l,h,hs,x,hx=>by
  have h1:=h y (by simp)
  have h2:∀z∈l,0<=f z:=fun z hz=>h z (by simp[hz])
  have h3:0<=(l.map f).sum:=by
   clear h h1 hs hx
   induction l with
   |nil=>simp
   |cons z l ih=>
    have:=h2 z (by simp)
    have:=ih fun y hy=>h2 y (by simp[hy])
    simp only[List.map_cons,List.sum_cons];omega
  simp only[List.map_cons,List.sum_cons]at hs
  rcases List.mem_cons.1 hx with rfl|hx
  ·omega
  ·exact sum0 h2 (by omega) x hx
open Classical in
mutual
theorem Qes{p:Lab->Prop}:∀t:Tr,allT p t->sumT (fun l=>if p l then 0 else 1) t=0
 |.mk o n b k a,h=>by
  simp only[sumT,Qby k h.2]
  rw[if_pos h.1];rfl
theorem Qby{p:Lab->Prop}:∀l:List Tr,allTs p l->sumTs (fun l=>if p l then 0 else 1) l=0
 |[],_=>rfl
 |t::l,h=>by simp only[sumTs,Qes t h.1,Qby l h.2];rfl
end
open Classical in
theorem Qh7{p:Lab->Prop}{g:List Ex}(h:IsTree g)(ha:allT p (grow g)):∀l∈labs g,p l:=by
 have h1:=Q8m (fun l=>if p l then (0:Int)else 1) h
 rw[Qes _ ha]at h1
 intro l hl
 have:=sum0 (fun x _=>by split <;> omega) h1 l hl
 split at this
 ·assumption
 ·cases this
end Go.CoreX
namespace Go.Proofs.YtkgjldchcbfpnaaGreatDoor
open Go Go.Abs Go.CoreX
variable {Γ:List (Nat×List AC)}
end Go.Proofs.YtkgjldchcbfpnaaGreatDoor
namespace Go.CoreX
structure pOk (l:Lab):Prop where
 b:l.binds.length<=1048576
 k:l.ops.length<=1048576
 a:l.alts.length<=1048576
 ab:∀x∈l.alts,x.binds.length<=1048576
 s:l.binds.length+(l.alts.flatMap (·.binds)).length<=4194304
-- Two lists in order, with the same members, are one list.
end Go.CoreX
namespace Go.Proofs.YtkgjldchcbfpnaaGreatDoor
open Go Go.Abs Go.CoreX
theorem Qds{g:List Ex}(hl:g.length<=1048576)(h:∀l∈labs g,pOk l):okB g:=by
 refine⟨⟨hl,fun x hx=>?_⟩,fun x hx=>?_⟩
 ·have:=h _ (List.mem_map_of_mem (f:=labE g) hx)
  exact⟨this.b,by simpa[labE]using this.k,this.a,this.ab⟩
 ·exact (h _ (List.mem_map_of_mem (f:=labE g) hx)).s
end Go.Proofs.YtkgjldchcbfpnaaGreatDoor
namespace Go.CoreX
end Go.CoreX
namespace Go.CoreX
mutual
theorem Qb3:∀t:Tr,okT t->allT pOk t
 |.mk o n b k a,h=>⟨⟨h.1,by simpa using h.2.1,h.2.2.1,h.2.2.2.1.1,h.2.2.2.1.2⟩,Qce k h.2.2.2.2⟩
theorem Qce:∀l:List Tr,okTs l->allTs pOk l
 |[],_=>trivial
 |t::l,h=>⟨Qb3 t h.1,Qce l h.2⟩
end
end Go.CoreX
namespace Go.Proofs.YtkgjldchcbfpnaaGreatDoor
open Go Go.Abs Go.CoreX
theorem Qcg{T:Tr}(h:allT pOk T)(hl:cntN T<=1048576):okB (listT [] T):=Qds (by have:=Qah T [];simp at this;omega) (Qh7 (Q6y _) (by rw[Q3v];exact h))
end Go.Proofs.YtkgjldchcbfpnaaGreatDoor
namespace Go.CoreX
mutual
inductive Vl where
 |nil
 |word (n:Int)
 |clo (t:Tr) (e:En)
 |obj (tag:Int) (fs:List Vl)
 |row (ls:List Int) (fs:List Vl)
 |arr (a:Nat)
 |res (fs:List Fm)
 |cap (fn:Int) (slots:List Vl)
inductive En where
 |nil
 |bind (id:Int) (v:Vl) (next:En)
 |recs (t:Tr) (next:En)
inductive Fm where
 |mk (t:Tr) (e:En) (done:List Vl)
end
instance:Inhabited Vl:=⟨.nil⟩
instance:Inhabited Fm:=⟨.mk default .nil []⟩
def Fm.t:Fm->Tr|.mk t _ _=>t
def Fm.e:Fm->En|.mk _ e _=>e
def Fm.done:Fm->List Vl|.mk _ _ d=>d
@[simp] theorem Fm.t_mk (t e d):(Fm.mk t e d).t=t:=rfl
@[simp] theorem Fm.e_mk (t e d):(Fm.mk t e d).e=e:=rfl
@[simp] theorem Fm.done_mk (t e d):(Fm.mk t e d).done=d:=rfl

def Q6v (l:List Int)(id:Int):Nat->Option Nat
 |0=>none
 |i+1=>if l.getD i 0=id then some i else Q6v l id i
def findE (id:Int):En->Vl
 |.nil=>.nil
 |.bind i v n=>if i=id then v else findE id n
 |.recs t n=>match Q6v t.binds id t.binds.length with
  |some i=>.clo (t.kids.getD i default) (.recs t n)
  |none=>findE id n
def allE (e:En):List Int->List Vl->En
 |id::ids,l=>allE (.bind id (l.headD .nil) e) ids l.tail
 |[],_=>e

inductive Ctl where
 |ev (t:Tr) (e:En)
 |rt (v:Vl)
structure Ms where
 c:Ctl
 k:List Fm
 out:List Int
 steps:Int
 heap:List (List Vl)
structure Fun where
 params:List Int
 body:Tr

def condV (b:Bool):Vl:=.obj (if b then 1 else 0) []
def wrapW (n:Int):Int:=(n+1073741824) % 2147483648 - 1073741824
def wordV:Vl->Except Int Int
 |.word n=>.ok n
 |_=>.error 5
def Qcu (h:List (List Vl)):Vl->Except Int (Nat×List Vl)
 |.arr a=>.ok (a,h.getD a [])
 |_=>.error 5
def rowsV:Vl->Except Int (List Int×List Vl)
 |.row ls fs=>.ok (ls,fs)
 |_=>.error 5

def bsGo (l:List Int)(x:Int):Nat->Nat->Nat->Nat
 |0,i,_=>i
 |g+1,i,j=>if i < j then (if l.getD ((i+j) / 2) 0 < x then bsGo l x g ((i+j) / 2+1) j else bsGo l x g i ((i+j) / 2))else i
def bsAt (l:List Int)(x:Int):Nat:=bsGo l x l.length 0 l.length
def bsIs (l:List Int)(x:Int):Bool:=decide (bsAt l x < l.length)&&l.getD (bsAt l x) 0==x

def Q2t (fu:Int)(m:Ms)(many:Int)(v:Vl):Except Int (Ms×Vl):=
 if many < 0∨1024 < many then .error 6 else if fu - m.steps < many then .error (-1) else
 .ok ({ m with steps:=m.steps+many,heap:=m.heap++[List.replicate many.toNat v] },.arr m.heap.length)
def Q2d (m:Ms)(n:Int)(l:List Vl):Except Int (Ms×Vl):=do
 let (a,its) ←Qcu m.heap (l.getD 0 .nil)
 if n=9 then return (m,.word its.length)
 let i ←wordV (l.getD 1 .nil)
 if i < 0∨(its.length:Int)<=i then .error 2
 else if n=10 then return (m,its.getD i.toNat .nil)
 else return ({ m with heap:=m.heap.set a (its.set i.toNat (l.getD 2 .nil)) },.obj 0 [])
def primM (fu:Int)(m:Ms)(n:Int)(l:List Vl):Except Int (Ms×Vl):=
 if n=0 then do return (m,.word (wrapW ((←wordV (l.getD 0 .nil))+(←wordV (l.getD 1 .nil))))) else
 if n=1 then do return (m,.word (wrapW ((←wordV (l.getD 0 .nil)) - (←wordV (l.getD 1 .nil))))) else
 if n=2 then do return (m,.word (wrapW ((←wordV (l.getD 0 .nil)) * (←wordV (l.getD 1 .nil))))) else
 if n=3 then do
  let a ←wordV (l.getD 0 .nil)
  let b ←wordV (l.getD 1 .nil)
  if b=0 then .error 1 else return (m,.word (wrapW (a.tdiv b))) else
 if n=4 then do
  let a ←wordV (l.getD 0 .nil)
  let b ←wordV (l.getD 1 .nil)
  if b=0 then .error 1 else return (m,.word (a.tmod b)) else
 if n=5 then do return (m,condV (decide ((←wordV (l.getD 0 .nil)) < (←wordV (l.getD 1 .nil))))) else
 if n=6 then do return (m,condV (decide ((←wordV (l.getD 0 .nil))=(←wordV (l.getD 1 .nil))))) else
 if n=7 then do
  let a ←wordV (l.getD 0 .nil)
  if m.out.length=1000 then .error 6 else return ({ m with out:=m.out++[a] },.obj 0 []) else
 if n=8 then do
  let a ←wordV (l.getD 0 .nil)
  Q2t fu m a (l.getD 1 .nil) else
 Q2d m n l
def withR (ls:List Int)(fs:List Vl)(n:Int)(v:Vl):Vl:=
 if bsIs ls n then .row ls (fs.set (bsAt ls n) v)
 else .row (ls.take (bsAt ls n)++n::ls.drop (bsAt ls n)) (fs.take (bsAt ls n)++v::fs.drop (bsAt ls n))
def Q0o (fu:Int)(m:Ms)(t:Tr)(l:List Vl):Except Int (Ms×Vl):=
 if t.op=6 then .ok (m,.obj t.n l) else
 if t.op=8 then primM fu m t.n l else
 if t.op=9 then .ok (m,.row t.binds l) else
 if t.op=10 then do
  let (ls,fs) ←rowsV (l.getD 0 .nil)
  if bsIs ls t.n then return (m,fs.getD (bsAt ls t.n) .nil)else .error 3
 else do
  let (ls,fs) ←rowsV (l.getD 0 .nil)
  return (m,withR ls fs t.n (l.getD 1 .nil))
def opdN (t:Tr):Nat:=if t.op=4∨t.op=7∨t.op=13∨t.op=12 then 1 else t.kids.length
def Q19 (tag:Int)(fs:List Vl)(e:En)(kids:List Tr):Nat->List Alt->Except Int Ctl
 |_,[]=>.error 3
 |i,a::al=>if a.tag=tag then (if a.binds.length=fs.length then .ok (.ev (kids.getD (1+i) default) (allE e a.binds fs))else .error 5)
  else if a.tag=-1 then .ok (.ev (kids.getD (1+i) default) e)else Q19 tag fs e kids (i+1) al
def Q2c (m:Ms)(t:Tr)(e:En)(v:Vl):Except Int Ms:=
 match v with
 |.obj tag fs=>(Q19 tag fs e t.kids 0 t.alts).map fun c=>{ m with c:=c }
 |_=>.error 5
def callM (fns:List Fun)(m:Ms)(f:Vl)(args:List Vl):Except Int Ms:=
 match f with
 |.clo t e=>if t.binds.length=args.length then .ok { m with c:=.ev (t.kids.getD 0 default) (allE e t.binds args) }else .error 5
 |.cap n slots=>if (fns.getD n.toNat ⟨[],default⟩).params.length=args.length+1 then .ok { m with c:=.ev (fns.getD n.toNat ⟨[],default⟩).body (allE .nil (fns.getD n.toNat ⟨[],default⟩).params (.cap n slots::args)) }else .error 5
 |.res fs=>match args with
  |[a]=>.ok { m with c:=.rt a,k:=fs++m.k }
  |_=>.error 5
 |_=>.error 5
def Q6g (op:Int):Nat->List Alt->Option Nat
 |_,[]=>none
 |i,a::al=>if a.tag=op/\0 < i then some i else Q6g op (i+1) al
def Q2z (m:Ms)(op:Int)(v:Vl):List Fm->List Fm->Except Int Ms
 |_,[]=>.error 4
 |l,f::k=>match (if f.t.op=13 then Q6g op 0 f.t.alts else none) with
  |some i=>.ok { m with c:=.ev (f.t.kids.getD (1+i) default) (.bind ((f.t.alts.getD i ⟨0,[]⟩).binds.getD 1 0) (.res (l++[f])) (.bind ((f.t.alts.getD i ⟨0,[]⟩).binds.getD 0 0) v f.e)),k:=k }
  |none=>Q2z m op v (l++[f]) k
def kidM (fu:Int)(fns:List Fun)(m:Ms)(f:Fm)(k:List Fm):Except Int Ms:=
 if f.done.length < opdN f.t then .ok { m with c:=.ev (f.t.kids.getD f.done.length default) f.e,k:=f::k } else
 if f.t.op=4 then .ok { m with c:=.ev (f.t.kids.getD 1 default) (.bind (f.t.binds.getD 0 0) (f.done.getD 0 .nil) f.e),k:=k } else
 if f.t.op=7 then Q2c { m with k:=k } f.t f.e (f.done.getD 0 .nil) else
 if f.t.op=3 then callM fns { m with k:=k } (f.done.getD 0 .nil) (f.done.drop 1) else
 if f.t.op=13 then .ok { m with c:=.ev (f.t.kids.getD 1 default) (.bind ((f.t.alts.getD 0 ⟨0,[]⟩).binds.getD 0 0) (f.done.getD 0 .nil) f.e),k:=k } else
 if f.t.op=12 then Q2z m f.t.n (f.done.getD 0 .nil) [] k else
 if f.t.op=14 then .ok { m with c:=.ev (fns.getD f.t.n.toNat ⟨[],default⟩).body (allE .nil (fns.getD f.t.n.toNat ⟨[],default⟩).params f.done),k:=k } else
 if f.t.op=15 then .ok { m with c:=.rt (.cap f.t.n f.done),k:=k } else
 if f.t.op=16 then (match f.done.getD 0 .nil with
  |.cap _ slots=>if f.t.n < slots.length then .ok { m with c:=.rt (slots.getD f.t.n.toNat .nil),k:=k }else .error 5
  |_=>.error 5) else
 (Q0o fu { m with k:=k } f.t f.done).map fun (m',v)=>{ m' with c:=.rt v }
def Q0h (fu:Int)(fns:List Fun)(m:Ms)(t:Tr)(e:En):Except Int Ms:=
 if t.op=0 then .ok { m with c:=.rt (findE t.n e) } else
 if t.op=1 then .ok { m with c:=.rt (.word t.n) } else
 if t.op=2 then .ok { m with c:=.rt (.clo t e) } else
 if t.op=17 then .error t.n else
 if t.op=5 then .ok { m with c:=.ev (t.kids.getD t.binds.length default) (.recs t e) } else
 kidM fu fns m (.mk t e []) m.k
inductive Rd where
 |next (m:Ms)
 |done (m:Ms) (v:Vl)
 |fuel
 |trap (code:Int) (m:Ms)
def Q0a (fu:Int)(fns:List Fun)(m:Ms):Rd:=
 match m.c with
 |.rt v=>match m.k with
  |[]=>.done m v
  |f::k=>match kidM fu fns m (.mk f.t f.e (f.done++[v])) k with
   |.ok m'=>.next m'
   |.error c=>.trap c m
 |.ev t e=>if m.steps=fu then .fuel else
  match Q0h fu fns { m with steps:=m.steps+1 } t e with
  |.ok m'=>.next m'
  |.error c=>.trap c { m with steps:=m.steps+1 }
structure Rs where
 out:List Int
 fin:Int
 val:Int
 steps:Int
 err:Int
 deriving DecidableEq
def lastV:Vl->Int
 |.word n=>n
 |.obj t _=>t
 |_=>0
def Q1p:Rs:=⟨[],0,0,0,13⟩
def goM (fu:Int)(fns:List Fun):Nat->Ms->Option Rs
 |0,_=>none
 |g+1,m=>match Q0a fu fns m with
  |.next m'=>goM fu fns g m'
  |.done m v=>some ⟨m.out,0,lastV v,m.steps,0⟩
  |.fuel=>some Q1p
  |.trap c m=>some (if c < 0 then Q1p else ⟨m.out,c,0,m.steps,0⟩)
end Go.CoreX
namespace Go.CoreX
inductive Rn (fu:Int)(fns:List Fun):Nat->Ms->Ms->Prop
 |zero (m:Ms):Rn fu fns 0 m m
 |succ {n:Nat}{m m1 m':Ms}(h:Q0a fu fns m=.next m1) (k:Rn fu fns n m1 m'):Rn fu fns (n+1) m m'
section
variable {fu:Int}{fns:List Fun}
theorem Rn.trans{n n':Nat}{m m1 m2:Ms}(a:Rn fu fns n m m1)(b:Rn fu fns n' m1 m2):Rn fu fns (n'+n) m m2:=by
 induction a with
 |zero m=>exact b
 |succ h k ih=>exact .succ h (ih b)
theorem Rn.go{n:Nat}{m m':Ms}(a:Rn fu fns n m m')(g:Nat):goM fu fns (g+n) m=goM fu fns g m':=by
 induction a with
 |zero m=>rfl
 |succ h k ih=>
  rw[←Nat.add_assoc,goM,h]
  exact ih
def Rs' (fu:Int)(fns:List Fun)(m m':Ms):Prop:=∃n,Rn fu fns n m m'
theorem Rs'.trans{m m1 m2:Ms}(a:Rs' fu fns m m1)(b:Rs' fu fns m1 m2):Rs' fu fns m m2:=by
 obtain⟨n,a⟩:=a;obtain⟨k,b⟩:=b;exact⟨_,a.trans b⟩
end
end Go.CoreX
namespace Go.CoreX
section
variable {fu:Int}{fns:List Fun}
def tV (n:Int):Tr:=.mk 0 n [] [] []
def tW (n:Int):Tr:=.mk 1 n [] [] []
end
end Go.CoreX
namespace Go.CoreX
mutual
def szV:Vl->Nat
 |.res fs=>szFs fs
 |_=>0
def szVs:List Vl->Nat
 |[]=>0
 |v::vs=>szV v+szVs vs
def szF:Fm->Nat
 |.mk _ _ d=>1+szVs d
def szFs:List Fm->Nat
 |[]=>0
 |f::fs=>szF f+szFs fs
end
theorem Qhq(a b:List Fm):szFs (a++b)=szFs a+szFs b:=by
 induction a with
 |nil=>simp[szFs]
 |cons x a ih=>simp[szFs,ih];omega
def phase (m:Ms):Nat:=match m.c with
 |.ev _ _=>0
 |.rt _=>1+szFs m.k
structure After (fu:Int)(m m':Ms)(b:Nat):Prop where
 ge:m.steps<=m'.steps
 le:m.steps<=fu->m'.steps<=fu
 ph:phase m' < 1+b
theorem Q8d{tag:Int}{fs:List Vl}{e:En}{kids:List Tr}{c:Ctl}:∀(i:Nat)(l:List Alt),Q19 tag fs e kids i l=.ok c->∃t e',c=.ev t e'
 |_,[],h=>by cases h
 |i,a::al,h=>by
  unfold Q19 at h
  split at h
  ·split at h
   ·cases h;exact⟨_,_,rfl⟩
   ·cases h
  ·split at h
   ·cases h;exact⟨_,_,rfl⟩
   ·exact Q8d _ al h
theorem Q6q{m m':Ms}{op:Int}{v:Vl}:∀(l k:List Fm),Q2z m op v l k=.ok m'->(∃t e',m'.c=.ev t e')/\m'.steps=m.steps
 |_,[],h=>by cases h
 |l,f::k,h=>by
  unfold Q2z at h
  split at h
  ·cases h;exact⟨⟨_,_,rfl⟩,rfl⟩
  ·exact Q6q _ k h
theorem Qb1{fu:Int}{m m':Ms}{n:Int}{l:List Vl}{v:Vl}(h:primM fu m n l=.ok (m',v)):m.steps<=m'.steps/\(m.steps<=fu->m'.steps<=fu)/\m'.k=m.k:=by
 have bd:∀{α β:Type}{x:Except Int α}{f:α->Except Int β}{r:β},x.bind f=.ok r->∃a,x=.ok a/\f a=.ok r:=by
  intro α β x f r hh
  cases x with
  |error c=>cases hh
  |ok a=>exact⟨a,rfl,hh⟩
 unfold primM at h
 repeat' split at h
 all_goals try (simp only[bind,Except.bind,pure,Except.pure]at h;repeat' split at h)
 all_goals try (cases h;done)
 all_goals try (cases h;exact⟨Int.le_refl _,id,rfl⟩)
 ·unfold Q2t at h
  repeat' split at h
  all_goals try (cases h;done)
  cases h
  refine⟨?_,?_,rfl⟩ <;> simp <;> omega
 ·unfold Q2d at h
  simp only[bind,Except.bind,pure,Except.pure]at h
  repeat' split at h
  all_goals try (cases h;done)
  all_goals (cases h;exact⟨Int.le_refl _,id,rfl⟩)
theorem Q3s{fu:Int}{m m':Ms}{t:Tr}{l:List Vl}{v:Vl}(h:Q0o fu m t l=.ok (m',v)):m.steps<=m'.steps/\(m.steps<=fu->m'.steps<=fu)/\m'.k=m.k:=by
 unfold Q0o at h
 repeat' split at h
 ·cases h;exact⟨Int.le_refl _,id,rfl⟩
 ·exact Qb1 h
 ·cases h;exact⟨Int.le_refl _,id,rfl⟩
 ·simp only[bind,Except.bind,pure,Except.pure]at h
  repeat' split at h
  all_goals try (cases h;done)
  all_goals (cases h;exact⟨Int.le_refl _,id,rfl⟩)
 ·simp only[bind,Except.bind,pure,Except.pure]at h
  repeat' split at h
  all_goals try (cases h;done)
  all_goals (cases h;exact⟨Int.le_refl _,id,rfl⟩)
theorem Q2o{fu:Int}{fns:List Fun}{m m':Ms}{f:Fm}{k:List Fm}(h:kidM fu fns m f k=.ok m')(d0:List Vl)(v:Vl)(hd:f.done=d0++[v]∨(f.done=[]/\d0=[])):After fu m m' (1+szVs d0+szFs k):=by
 unfold kidM at h
 split at h
 ·cases h;exact⟨Int.le_refl _,id,by simp[phase];omega⟩
 split at h
 ·cases h;exact⟨Int.le_refl _,id,by simp[phase];omega⟩
 split at h
 ·unfold Q2c at h
  split at h
  ·cases hc:Q19 _ _ f.e f.t.kids 0 f.t.alts with
   |error c=>rw[hc]at h;cases h
   |ok c=>
    rw[hc]at h
    obtain⟨t,e',rfl⟩:=Q8d _ _ hc
    cases h
    exact⟨Int.le_refl _,id,by simp[phase];omega⟩
  ·cases h
 split at h
 ·unfold callM at h
  split at h
  ·split at h
   ·cases h;exact⟨Int.le_refl _,id,by simp[phase];omega⟩
   ·cases h
  ·split at h
   ·cases h;exact⟨Int.le_refl _,id,by simp[phase];omega⟩
   ·cases h
  ·rename_i fs hf
   split at h
   ·rename_i a ha
    cases h
    refine⟨Int.le_refl _,id,?_⟩
    simp only[phase,Qhq]
    rcases hd with hd|⟨hd,_⟩
    ·rw[hd]at hf ha
     have:d0=[.res fs]:=by
      have hl:=congrArg List.length ha
      simp at hl
      match d0,hl with
      |[x],_=>simp at hf;rw[hf]
     subst this
     simp[szVs,szV]
    ·rw[hd]at ha;cases ha
   ·cases h
  ·cases h
 split at h
 ·cases h;exact⟨Int.le_refl _,id,by simp[phase];omega⟩
 split at h
 ·obtain⟨⟨t,e',hc⟩,hs⟩:=Q6q _ _ h
  refine⟨by rw[hs];exact Int.le_refl _,fun hh=>by rw[hs];exact hh,?_⟩
  simp[phase,hc];omega
 split at h
 ·cases h;exact⟨Int.le_refl _,id,by simp[phase];omega⟩
 split at h
 ·cases h;exact⟨Int.le_refl _,id,by simp[phase];omega⟩
 split at h
 ·split at h
  ·split at h
   ·cases h;exact⟨Int.le_refl _,id,by simp[phase];omega⟩
   ·cases h
  ·cases h
 ·cases hp:Q0o fu { m with k:=k } f.t f.done with
  |error c=>rw[hp]at h;cases h
  |ok mv=>
   obtain⟨m2,v2⟩:=mv
   rw[hp]at h
   cases h
   obtain⟨h1,h2,h3⟩:=Q3s hp
   refine⟨h1,h2,?_⟩
   simp only[phase,h3];omega
theorem Q4j{fu:Int}{fns:List Fun}{m m':Ms}(h:Q0a fu fns m=.next m')(hs:m.steps<=fu):m'.steps<=fu/\(m.steps < m'.steps∨(m.steps=m'.steps/\phase m' < phase m)∨(m.steps<=m'.steps/\phase m' < phase m)):=by
 unfold Q0a at h
 split at h
 ·rename_i v hc
  split at h
  ·cases h
  ·rename_i f k hk
   split at h
   ·rename_i m2 hkid
    cases h
    obtain⟨h1,h2,h3⟩:=Q2o hkid f.done v (.inl rfl)
    refine⟨h2 hs,.inr (.inr ⟨h1,?_⟩)⟩
    have:phase m=1+szFs m.k:=by simp[phase,hc]
    rw[this,hk,szFs]
    cases f with
    |mk t e d=>simp only[szF]at *;simp at h3;omega
   ·cases h
 ·rename_i t e hc
  split at h
  ·cases h
  ·rename_i hne
   split at h
   ·rename_i m2 hst
    cases h
    have hlt:m.steps+1<=fu:=by omega
    have key:∀m3:Ms,m3.steps=m.steps+1->m3.steps<=fu/\(m.steps < m3.steps∨(m.steps=m3.steps/\phase m3 < phase m)∨(m.steps<=m3.steps/\phase m3 < phase m)):=fun m3 h3=>⟨by omega,.inl (by omega)⟩
    unfold Q0h at hst
    repeat' split at hst
    all_goals try (cases hst;done)
    all_goals try (cases hst;exact key _ rfl)
    obtain⟨h1,h2,h3⟩:=Q2o hst [] .nil (.inr ⟨rfl,rfl⟩)
    refine⟨h2 hlt,.inl ?_⟩
    have:m.steps+1<=m'.steps:=h1
    omega
   ·cases h
theorem Qgq(fu:Int)(fns:List Fun):∀(N P:Nat)(m:Ms),m.steps<=fu->(fu - m.steps).toNat=N->phase m=P->∃g R,goM fu fns g m=some R:=by
 intro N
 induction N using Nat.strongRecOn with
 |_ N ihN=>
  intro P
  induction P using Nat.strongRecOn with
  |_ P ihP=>
   intro m hs hN hP
   cases hr:Q0a fu fns m with
   |done m2 v=>exact⟨1,_,by simp only[goM,hr];rfl⟩
   |fuel=>exact⟨1,_,by simp only[goM,hr];rfl⟩
   |trap c m2=>exact⟨1,_,by simp only[goM,hr];rfl⟩
   |next m2=>
    obtain⟨h1,h2⟩:=Q4j hr hs
    have:∃g R,goM fu fns g m2=some R:=by
     by_cases hlt:m.steps < m2.steps
     ·exact ihN _ (by omega) (phase m2) m2 h1 rfl rfl
     ·have:phase m2 < phase m:=by omega
      exact ihP _ (by omega) m2 h1 (by omega) rfl
    obtain⟨g,R,hg⟩:=this
    exact⟨g+1,R,by simp[goM,hr,hg]⟩
theorem Q99{fu:Int}{fns:List Fun}:∀{g g':Nat}{m:Ms}{R:Rs},g<=g'->goM fu fns g m=some R->goM fu fns g' m=some R
 |0,_,_,_,_,h=>by cases h
 |g+1,0,_,_,hl,_=>by omega
 |g+1,g'+1,m,R,hl,h=>by
  cases hr:Q0a fu fns m with
  |next m2=>simp only[goM,hr]at h ⊢;exact Q99 (by omega) h
  |done m2 v=>simp only[goM,hr]at h ⊢;exact h
  |fuel=>simp only[goM,hr]at h ⊢;exact h
  |trap c m2=>simp only[goM,hr]at h ⊢;exact h
def EndsM (fu:Int)(fns:List Fun)(m:Ms)(R:Rs):Prop:=∃g,goM fu fns g m=some R
theorem EndsM.det{fu:Int}{fns:List Fun}{m:Ms}{R R':Rs}(h:EndsM fu fns m R)(h':EndsM fu fns m R'):R=R':=by
 obtain⟨g,h⟩:=h
 obtain⟨g',h'⟩:=h'
 have a:=Q99 (Nat.le_max_left g g') h
 have b:=Q99 (Nat.le_max_right g g') h'
 rw[a]at b;exact Option.some.inj b
theorem EndsM.total{fu:Int}{fns:List Fun}{m:Ms}(h:m.steps<=fu):∃R,EndsM fu fns m R:=by
 obtain⟨g,R,hg⟩:=Qgq fu fns _ _ m h rfl rfl
 exact⟨R,g,hg⟩
def initM (t:Tr):Ms:=⟨.ev t .nil,[],[],0,[]⟩
end Go.CoreX
namespace Go.CoreX
structure GP where
 p:Lab->Prop
 S:Int->Prop
 W:Int->Prop
 fns:List Fun
 R:Prop:=True
 RW:List Int->Prop:=fun _=>True
structure GPok (G:GP):Prop where
 sh:∀l,G.p l->shpQ l
 bnd:∀l,G.p l->∀i∈Q1l l.op l.binds l.alts,G.S i
 wd:∀l,G.p l->l.op=1->G.W l.n
 rc:∀l,G.p l->l.op=5->∀i,i < l.binds.length->l.ops[i]?=some 2
 wr:∀n,G.W (wrapW n)
 wl:∀n:Int,0<=n->n<=1024->G.W n
 wm:∀a b:Int,G.W a->G.W b->G.W (a.tmod b)
 fn:∀f∈G.fns,allT G.p f.body/\∀i∈f.params,G.S i
 cl:∀l,G.p l->l.op=14∨l.op=15->0<=l.n/\l.n < G.fns.length
 rs:∀l,G.p l->l.op=12->G.R
 rw:∀l,G.p l->l.op=9->G.RW l.binds:=by intros;exact True.intro
 ri:∀l,G.p l->l.op=11->∀ls,G.RW ls->bsIs ls l.n=false->G.RW (ls.take (bsAt ls l.n)++l.n::ls.drop (bsAt ls l.n)):=by intros;exact True.intro
def nLf (o:Int):Prop:=¬(o=0∨o=1∨o=2∨o=17∨o=5)
mutual
def gV (G:GP):Vl->Prop
 |.nil=>True
 |.word n=>G.W n
 |.clo t e=>t.op=2/\allT G.p t/\gE G e
 |.obj _ fs=>gVs G fs
 |.row ls fs=>ls.length=fs.length/\G.RW ls/\gVs G fs
 |.arr _=>True
 |.res fs=>G.R/\gFs G fs
 |.cap n sl=>(0<=n/\n < G.fns.length)/\gVs G sl
def gVs (G:GP):List Vl->Prop
 |[]=>True
 |v::l=>gV G v/\gVs G l
def gE (G:GP):En->Prop
 |.nil=>True
 |.bind i v n=>G.S i/\gV G v/\gE G n
 |.recs t n=>t.op=5/\allT G.p t/\gE G n
def gF (G:GP):Fm->Prop
 |.mk t e d=>allT G.p t/\gE G e/\gVs G d/\d.length < opdN t/\nLf t.op
def gFs (G:GP):List Fm->Prop
 |[]=>True
 |f::l=>gF G f/\gFs G l
end
def gC (G:GP):Ctl->Prop
 |.ev t e=>allT G.p t/\gE G e
 |.rt v=>gV G v
structure gM (G:GP)(m:Ms):Prop where
 c:gC G m.c
 k:gFs G m.k
 h:∀r∈m.heap,r.length<=1024/\gVs G r
section
variable {G:GP}(hG:GPok G)
theorem Q1h:∀{l:List Vl},gVs G l↔∀v∈l,gV G v
 |[]=>by simp[gVs]
 |v::l=>by simp[gVs,Q1h (l:=l)]
theorem Q9b:∀{l:List Fm},gFs G l↔∀v∈l,gF G v
 |[]=>by simp[gFs]
 |v::l=>by simp[gFs,Q9b (l:=l)]
theorem gF_iff{f:Fm}:gF G f↔allT G.p f.t/\gE G f.e/\gVs G f.done/\f.done.length < opdN f.t/\nLf f.t.op:=by cases f;exact Iff.rfl
theorem Q2k{l:List Vl}(h:gVs G l)(i:Nat):gV G (l.getD i .nil):=by
 rw[List.getD_eq_getElem?_getD]
 cases hi:l[i]? with
 |none=>simp[gV]
 |some v=>exact Q1h.1 h v (List.mem_of_getElem? hi)
theorem Q9a{a b:List Vl}(ha:gVs G a)(hb:gVs G b):gVs G (a++b):=Q1h.2 fun v hv=>(List.mem_append.1 hv).elim (Q1h.1 ha v) (Q1h.1 hb v)
theorem Qb9{a b:List Fm}(ha:gFs G a)(hb:gFs G b):gFs G (a++b):=Q9b.2 fun v hv=>(List.mem_append.1 hv).elim (Q9b.1 ha v) (Q9b.1 hb v)
theorem Q72:∀{ids:List Int}{l:List Vl}{e:En},gE G e->gVs G l->(∀i∈ids,G.S i)->gE G (allE e ids l)
 |[],_,_,he,_,_=>he
 |i::ids,l,e,he,hl,hs=>by
  refine Q72 (ids:=ids) ⟨hs i (by simp),?_,he⟩ ?_ fun j hj=>hs j (by simp[hj])
  ·cases l with
   |nil=>simp[gV]
   |cons v l=>exact hl.1
  ·cases l with
   |nil=>simp[gVs]
   |cons v l=>exact hl.2
include hG
theorem g_sh{t:Tr}(h:allT G.p t):ShN t.op t.n t.binds t.kids.length t.alts:=Qf1 (Qd9 hG.sh t h)
theorem g_bnd{t:Tr}(h:allT G.p t):∀i∈Q1l t.op t.binds t.alts,G.S i:=hG.bnd _ (Q0x h)
theorem Qgr{t:Tr}(h:allT G.p t){i:Nat}{a:Alt}(ha:t.alts[i]?=some a):∀j∈a.binds,G.S j:=fun j hj=>g_bnd hG h j (by
 unfold Q1l
 exact List.mem_append.2 (.inr (List.mem_flatMap.2 ⟨a,List.mem_of_getElem? ha,hj⟩)))
omit hG in
theorem Qa4{l:List Int}{id:Int}:∀{n i:Nat},Q6v l id n=some i->i < n/\l.getD i 0=id
 |0,_,h=>by cases h
 |n+1,i,h=>by
  unfold Q6v at h
  split at h
  ·rename_i he;cases h;exact⟨by omega,he⟩
  ·have:=Qa4 h;exact⟨by omega,this.2⟩
theorem Qip{t:Tr}(h:allT G.p t)(h5:t.op=5){i:Nat}(hi:i < t.binds.length):(t.kids.getD i default).op=2/\allT G.p (t.kids.getD i default)/\i < t.kids.length:=by
 have h1:=hG.rc _ (Q0x h) h5 i hi
 simp only at h1
 rw[List.getElem?_map]at h1
 cases hk:t.kids[i]? with
 |none=>rw[hk]at h1;cases h1
 |some s=>
  rw[hk]at h1
  have hl:=(List.getElem?_eq_some_iff.1 hk).1
  refine⟨?_,Q2n h hl,hl⟩
  rw[List.getD_eq_getElem?_getD,hk]
  simpa using h1
theorem Qba{id:Int}:∀{e:En},gE G e->gV G (findE id e)
 |.nil,_=>by simp[findE,gV]
 |.bind i v n,h=>by
  unfold findE
  split
  ·exact h.2.1
  ·exact Qba h.2.2
 |.recs t n,h=>by
  unfold findE
  split
  ·rename_i i hi
   have h1:=(Qa4 hi).1
   have h2:=Qip hG h.2.1 h.1 h1
   exact⟨h2.1,h2.2.1,h.1,h.2.1,h.2.2⟩
  ·exact Qba h.2.2
theorem Qaj{t:Tr}{e:En}{tag:Int}{fs:List Vl}{c:Ctl}(ht:allT G.p t)(h7:t.op=7)(he:gE G e)(hf:gVs G fs):∀(l:List Alt)(i:Nat),t.alts.drop i=l->Q19 tag fs e t.kids i l=.ok c->gC G c
 |[],_,_,h=>by cases h
 |a::al,i,hd,h=>by
  have ha:t.alts[i]?=some a:=by
   have:=congrArg (·[0]?) hd
   simpa using this
  have hl:=(List.getElem?_eq_some_iff.1 ha).1
  have hsh:=g_sh hG ht
  rw[h7]at hsh
  have hk:1+i < t.kids.length:=by rw[hsh.case.1];omega
  unfold Q19 at h
  split at h
  ·split at h
   ·cases h;exact⟨Q2n ht hk,Q72 he hf (Qgr hG ht ha)⟩
   ·cases h
  ·split at h
   ·cases h;exact⟨Q2n ht hk,he⟩
   ·exact Qaj ht h7 he hf al (i+1) (by rw[←List.drop_drop,hd];rfl) h
omit hG in
theorem Q5b{op:Int}:∀{l:List Alt}{i j:Nat},Q6g op i l=some j->0 < j/\i<=j/\∃a,l[j - i]?=some a/\a.tag=op
 |[],_,_,h=>by cases h
 |a::al,i,j,h=>by
  unfold Q6g at h
  split at h
  ·rename_i hc;cases h;exact⟨hc.2,by omega,a,by simp,hc.1⟩
  ·obtain⟨h1,h2,b,h3,h4⟩:=Q5b h
   refine⟨h1,by omega,b,?_,h4⟩
   rw[show j - i=(j - (i+1))+1 by omega];simpa using h3
theorem Q7t{op:Int}{v:Vl}{m m':Ms}(hR:G.R)(hv:gV G v)(hh:∀r∈m.heap,r.length<=1024/\gVs G r):∀{k l:List Fm},gFs G l->gFs G k->Q2z m op v l k=.ok m'->gM G m'
 | [], _, _, _, h => by cases h
 |f::k,l,hl,hk,h=>by
  unfold Q2z at h
  split at h
  ·rename_i i hi
   split at hi
   ·rename_i h13
    obtain⟨h1,h2,a,h3,h4⟩:=Q5b hi
    cases h
    cases f with
    |mk t e d=>
     obtain⟨g1,g2,g3,g4⟩:=hk.1
     simp only[Fm.t_mk,Fm.e_mk]at *
     have hsh:=g_sh hG g1
     rw[h13]at hsh
     have h3:t.alts[i]?=some a:=by simpa using h3
     have hil:=(List.getElem?_eq_some_iff.1 h3).1
     have hb:=(hsh.handle.2.2.2 i a h3).2
     rw[if_neg (by omega)]at hb
     have hS:=Qgr hG g1 h3
     have hga:t.alts.getD i ⟨0,[]⟩=a:=by rw[List.getD_eq_getElem?_getD,h3];rfl
     match hab:a.binds,hb with
     |[x,y],_=>
      refine⟨⟨Q2n g1 (by rw[hsh.handle.1];omega),?_,?_,?_,hv,g2⟩,hk.2,hh⟩
      ·rw[hga,hab];exact hS _ (by rw[hab];simp)
      ·exact⟨hR,Qb9 (b:=[_]) hl ⟨⟨g1,g2,g3,g4⟩,trivial⟩⟩
      ·rw[hga,hab];exact hS _ (by rw[hab];simp)
   ·cases hi
  ·exact Q7t hR hv hh (Qb9 (b:=[f]) hl ⟨hk.1,trivial⟩) hk.2 h
theorem primM_g{fu:Int}{m m':Ms}{n:Int}{l:List Vl}{v:Vl}(hl:gVs G l)(hh:∀r∈m.heap,r.length<=1024/\gVs G r)(h:primM fu m n l=.ok (m',v)):gV G v/\∀r∈m'.heap,r.length<=1024/\gVs G r:=by
 have hw:∀{i:Nat}{a:Int},wordV (l.getD i .nil)=.ok a->G.W a:=by
  intro i a ha
  have:=Q2k hl i
  cases hv:l.getD i Vl.nil <;> rw[hv]at ha this <;> first|(cases ha;done)|(cases ha;exact this)
 unfold primM at h
 repeat' split at h
 all_goals try (simp only[bind,Except.bind,pure,Except.pure]at h;repeat' split at h)
 all_goals try (cases h;done)
 all_goals try (cases h;refine⟨?_,hh⟩;first|exact hG.wr _|(simp only[condV,gV,gVs];done))
 ·rename_i a ha _ b hb _
  cases h;exact⟨hG.wm _ _ (hw ha) (hw hb),hh⟩
 ·unfold Q2t at h
  repeat' split at h
  all_goals try (cases h;done)
  cases h
  refine⟨trivial,fun r hr=>?_⟩
  rcases List.mem_append.1 hr with hr|hr
  ·exact hh r hr
  ·simp at hr
   subst hr
   refine⟨by simp;omega,Q1h.2 fun v hv=>?_⟩
   rw[(List.mem_replicate.1 hv).2]
   exact Q2k hl 1
 ·unfold Q2d at h
  simp only[bind,Except.bind,pure,Except.pure]at h
  have hit:∀{a:Nat}{its:List Vl},Qcu m.heap (l.getD 0 .nil)=.ok (a,its)->its.length<=1024/\gVs G its:=by
   intro a its ha
   cases hv:l.getD 0 Vl.nil <;> rw[hv]at ha <;> try (cases ha;done)
   cases ha
   rw[List.getD_eq_getElem?_getD]
   cases hr:m.heap[a]? with
   |none=>simp[gVs]
   |some r=>exact hh r (List.mem_of_getElem? hr)
  cases hp:Qcu m.heap (l.getD 0 .nil) with
  |error c=>rw[hp]at h;cases h
  |ok p=>
   obtain⟨a,its⟩:=p
   rw[hp]at h
   simp only at h
   by_cases h9:n=9
   ·rw[if_pos h9]at h
    cases h
    exact⟨hG.wl _ (by omega) (by have:=(hit hp).1;omega),hh⟩
   rw[if_neg h9]at h
   cases hw1:wordV (l.getD 1 .nil) with
   |error c=>rw[hw1]at h;cases h
   |ok i=>
    rw[hw1]at h
    simp only at h
    split at h
    ·cases h
    split at h
    ·cases h
     exact⟨Q2k (hit hp).2 _,hh⟩
    ·cases h
     refine⟨by simp only[gV,gVs],fun r hr=>?_⟩
     rcases List.mem_or_eq_of_mem_set hr with hr|hr
     ·exact hh r hr
     ·subst hr
      refine⟨by simpa using (hit hp).1,Q1h.2 fun v hv=>?_⟩
      rcases List.mem_or_eq_of_mem_set hv with hv|hv
      ·exact Q1h.1 (hit hp).2 v hv
      ·rw[hv];exact Q2k hl 2
theorem Qi6{fu:Int}{m m':Ms}{t:Tr}{l:List Vl}{v:Vl}(ht:allT G.p t)(h11:t.op=6∨t.op=8∨t.op=9∨t.op=10∨t.op=11)(hlen:l.length=t.kids.length)(hl:gVs G l)(hh:∀r∈m.heap,r.length<=1024/\gVs G r)(h:Q0o fu m t l=.ok (m',v)):gV G v/\∀r∈m'.heap,r.length<=1024/\gVs G r:=by
 have hr:∀{ls:List Int}{fs:List Vl},rowsV (l.getD 0 .nil)=.ok (ls,fs)->ls.length=fs.length/\G.RW ls/\gVs G fs:=by
  intro ls fs ha
  have:=Q2k hl 0
  cases hv:l.getD 0 Vl.nil <;> rw[hv]at ha this <;> first|(cases ha;done)|(cases ha;exact this)
 unfold Q0o at h
 split at h
 ·cases h;exact⟨hl,hh⟩
 split at h
 ·exact primM_g hG hl hh h
 split at h
 ·rename_i h9
  cases h
  have:=g_sh hG ht
  rw[h9]at this
  exact⟨⟨by rw[hlen];exact this.row.1.symm,hG.rw _ (Q0x ht) h9,hl⟩,hh⟩
 split at h
 ·simp only[bind,Except.bind,pure,Except.pure]at h
  repeat' split at h
  all_goals try (cases h;done)
  rename_i _ p hp _
  obtain⟨ls,fs⟩:=p
  cases h
  exact⟨Q2k (hr hp).2.2 _,hh⟩
 ·rename_i n6 n8 n9 n10
  have h11':t.op=11:=by omega
  simp only[bind,Except.bind,pure,Except.pure]at h
  repeat' split at h
  all_goals try (cases h;done)
  rename_i _ p hp
  obtain⟨ls,fs⟩:=p
  cases h
  refine⟨?_,hh⟩
  have hv:=Q2k hl 1
  obtain⟨h1,hrw,h2⟩:=hr hp
  unfold withR
  split
  ·refine⟨by simpa using h1,hrw,Q1h.2 fun v hv'=>?_⟩
   rcases List.mem_or_eq_of_mem_set hv' with h3|h3
   ·exact Q1h.1 h2 v h3
   ·rw[h3];exact hv
  ·rename_i hbs
   refine⟨by simp[h1],hG.ri _ (Q0x ht) h11' _ hrw (by simpa using hbs),Q9a (Q1h.2 fun v hv'=>Q1h.1 h2 v (List.mem_of_mem_take hv')) ⟨hv,Q1h.2 fun v hv'=>Q1h.1 h2 v (List.mem_of_mem_drop hv')⟩⟩
theorem g_fn(n:Int)(h:0<=n/\n < G.fns.length):allT G.p (G.fns.getD n.toNat ⟨[],default⟩).body/\∀i∈(G.fns.getD n.toNat ⟨[],default⟩).params,G.S i:=by
 have hl:n.toNat < G.fns.length:=by omega
 rw[List.getD_eq_getElem?_getD,List.getElem?_eq_getElem hl]
 exact hG.fn _ (List.getElem_mem hl)
theorem g_opN{t:Tr}(ht:allT G.p t):opdN t<=t.kids.length:=by
 have hsh:=g_sh hG ht
 unfold opdN
 split
 ·rename_i h
  rcases h with h|h|h|h <;> rw[h]at hsh
  ·rw[hsh.lett.1];omega
  ·rw[hsh.case.1];omega
  ·rw[hsh.handle.1];omega
  ·rw[(hsh.one (.inr (.inl rfl))).1];omega
 ·omega
omit hG in
theorem Qez{o n:Int}{b:List Int}{k:Nat}{a:List Alt}(h:ShN o n b k a):0<=o/\o<=17:=by
 by_cases h7:o=7∨o=13
 ·omega
 ·obtain⟨w,⟨ops,hl,hw⟩,_⟩:=h.want h7
  refine Classical.byContradiction fun hc=>?_
  have h0:wants ⟨o,n,b,ops,a⟩=none:=by
   unfold wants
   simp only
   rw[if_neg (by omega),if_neg (by omega),if_neg (by omega),if_neg (by omega),if_neg (by omega),if_neg (by omega),if_neg (by omega),if_neg (by omega),if_neg (by omega),if_neg (by omega),if_neg (by omega),if_neg (by omega)]
  rw[h0]at hw
  cases hw
theorem kidM_g{fu:Int}{m m':Ms}{f:Fm}{k:List Fm}(ht:allT G.p f.t)(he:gE G f.e)(hd:gVs G f.done)(hl:f.done.length<=opdN f.t)(hn:nLf f.t.op)(hk:gFs G k)(hh:∀r∈m.heap,r.length<=1024/\gVs G r)(h:kidM fu G.fns m f k=.ok m'):gM G m':=by
 have hsh:=g_sh hG ht
 have hop:=g_opN hG ht
 have hv:=Q2k hd 0
 unfold kidM at h
 split at h
 ·rename_i hlt
  cases h
  refine⟨⟨Q2n ht (by omega),he⟩,⟨?_,hk⟩,hh⟩
  cases f;exact⟨ht,he,hd,hlt,hn⟩
 rename_i hge
 split at h
 ·rename_i h4
  cases h
  rw[h4]at hsh
  obtain⟨h1,h2,h3⟩:=hsh.lett
  refine⟨⟨Q2n ht (by omega),?_,hv,he⟩,hk,hh⟩
  have:=g_bnd hG ht
  unfold Q1l at this
  rw[if_pos (by omega)]at this
  match hb:f.t.binds,h2 with
  |[x],_=>rw[hb]at this;exact this x (by simp)
 split at h
 ·rename_i h7
  unfold Q2c at h
  split at h
  ·rename_i tag fs hobj
   cases hc:Q19 tag fs f.e f.t.kids 0 f.t.alts with
   |error c=>rw[hc]at h;cases h
   |ok c=>
    rw[hc]at h
    cases h
    rw[hobj]at hv
    exact⟨Qaj hG ht h7 he hv _ 0 rfl hc,hk,hh⟩
  ·cases h
 split at h
 ·rename_i h3
  have hd1:gVs G (f.done.drop 1):=Q1h.2 fun v hv'=>Q1h.1 hd v (List.mem_of_mem_drop hv')
  unfold callM at h
  split at h
  ·rename_i t e hclo
   rw[hclo]at hv
   split at h
   ·cases h
    have h1:=g_sh hG hv.2.1
    have h2:=g_bnd hG hv.2.1
    rw[hv.1]at h1
    unfold Q1l at h2
    rw[hv.1,if_pos (by simp)]at h2
    refine⟨⟨Q2n hv.2.1 (by have:=h1.lam.1;omega),Q72 hv.2.2 hd1 fun i hi=>h2 i (List.mem_append.2 (.inl hi))⟩,hk,hh⟩
   ·cases h
  ·rename_i n slots hcap
   rw[hcap]at hv
   split at h
   ·cases h
    have:=g_fn hG n hv.1
    exact⟨⟨this.1,Q72 trivial ⟨hv,hd1⟩ this.2⟩,hk,hh⟩
   ·cases h
  ·rename_i fs hres
   rw[hres]at hv
   split at h
   ·rename_i a ha
    cases h
    rw[ha]at hd1
    exact⟨hd1.1,Qb9 hv.2 hk,hh⟩
   ·cases h
  ·cases h
 split at h
 ·rename_i h13
  cases h
  rw[h13]at hsh
  obtain⟨h1,h2,h3,h4⟩:=hsh.handle
  refine⟨⟨Q2n ht (by omega),?_,hv,he⟩,hk,hh⟩
  obtain⟨a,ha⟩:∃a,f.t.alts[0]?=some a:=⟨_,List.getElem?_eq_getElem (by omega)⟩
  have hb:=(h4 0 a ha).2
  rw[if_pos rfl]at hb
  have hS:=Qgr hG ht ha
  have hga:f.t.alts.getD 0 ⟨0,[]⟩=a:=by rw[List.getD_eq_getElem?_getD,ha];rfl
  rw[hga]
  match hab:a.binds,hb with
  |[x],_=>rw[hab]at hS;exact hS x (by simp)
 split at h
 ·rename_i h12
  exact Q7t hG (hG.rs _ (Q0x ht) h12) (l:=[]) hv hh trivial hk h
 split at h
 ·rename_i h14
  cases h
  have:=g_fn hG f.t.n (hG.cl _ (Q0x ht) (.inl h14))
  exact⟨⟨this.1,Q72 trivial hd this.2⟩,hk,hh⟩
 split at h
 ·rename_i h15
  cases h
  exact⟨⟨hG.cl _ (Q0x ht) (.inr h15),hd⟩,hk,hh⟩
 split at h
 ·split at h
  ·rename_i n slots hcap
   rw[hcap]at hv
   split at h
   ·cases h;exact⟨Q2k hv.2 _,hk,hh⟩
   ·cases h
  ·cases h
 ·rename_i h4 h7 h3 h13 h12 h14 h15 h16
  cases hp:Q0o fu { m with k:=k } f.t f.done with
  |error c=>rw[hp]at h;cases h
  |ok mv=>
   obtain⟨m2,v2⟩:=mv
   rw[hp]at h
   cases h
   have hlen:f.done.length=f.t.kids.length:=by
    unfold opdN at hge hl
    rw[if_neg (by omega)]at hge hl
    omega
   obtain⟨g1,g2⟩:=Qi6 hG (m:={ m with k:=k }) ht (by have:=Qez hsh;unfold nLf at hn;omega) hlen hd hh hp
   refine⟨g1,?_,g2⟩
   rw[(Q3s hp).2.2];exact hk
theorem Qhs{fu:Int}{m m':Ms}{t:Tr}{e:En}(ht:allT G.p t)(he:gE G e)(hk:gFs G m.k)(hh:∀r∈m.heap,r.length<=1024/\gVs G r)(h:Q0h fu G.fns m t e=.ok m'):gM G m':=by
 unfold Q0h at h
 split at h
 ·cases h;exact⟨Qba hG he,hk,hh⟩
 split at h
 ·rename_i h1
  cases h;exact⟨hG.wd _ (Q0x ht) h1,hk,hh⟩
 split at h
 ·rename_i h2
  cases h;exact⟨⟨h2,ht,he⟩,hk,hh⟩
 split at h
 ·cases h
 split at h
 ·rename_i h5
  cases h
  have hsh:=g_sh hG ht
  rw[h5]at hsh
  exact⟨⟨Q2n ht (by have:=hsh.recs.1;omega),h5,ht,he⟩,hk,hh⟩
 ·rename_i h0 h1 h2 h17 h5
  exact kidM_g hG (f:=.mk t e []) ht he trivial (Nat.zero_le _) (fun hh=>hh.elim h0 fun hh=>hh.elim h1 fun hh=>hh.elim h2 fun hh=>hh.elim h17 h5) hk hh h
theorem Q4z{fu:Int}{m m':Ms}(hm:gM G m)(h:Q0a fu G.fns m=.next m'):gM G m':=by
 unfold Q0a at h
 split at h
 ·rename_i v hc
  have hv:gV G v:=by have:=hm.c;rw[hc]at this;exact this
  split at h
  ·cases h
  ·rename_i f k hk
   have hf:=hm.k
   rw[hk]at hf
   split at h
   ·rename_i m2 hkid
    cases h
    obtain⟨g1,g2,g3,g4,g5⟩:=gF_iff.1 hf.1
    exact kidM_g hG (f:=.mk f.t f.e (f.done++[v])) g1 g2 (Q9a (b:=[v]) g3 ⟨hv,trivial⟩) (by simp only[Fm.done_mk,Fm.t_mk,List.length_append,List.length_singleton];omega) g5 hf.2 hm.h hkid
   ·cases h
 ·rename_i t e hc
  have ht:allT G.p t/\gE G e:=by have:=hm.c;rw[hc]at this;exact this
  split at h
  ·cases h
  ·split at h
   ·rename_i m2 hst
    cases h
    exact Qhs hG (m:={ m with steps:=m.steps+1 }) ht.1 ht.2 hm.k hm.h hst
   ·cases h
end
end Go.CoreX
namespace Go.CoreX
structure Sim where
 ν:Int->Int
 eb:En
 kb:List Fm
 ob:List Int
 hb:List (List Vl)
 st:Int
section
variable {s:Sim}{G:GP}
section
variable (ν:Int->Int)(t:Tr)
end
end
end Go.CoreX
namespace Go.CoreX
section
variable {s:Sim}{G:GP}
def goX (fu:Int)(fns:List Fun):Nat->Ms->Option Rd
 |0,_=>none
 |g+1,m=>match Q0a fu fns m with
  |.next m'=>goX fu fns g m'
  |r=>some r
def rsOf:Rd->Rs
 |.done m v=>⟨m.out,0,lastV v,m.steps,0⟩
 |.trap c m=>if c < 0 then Q1p else ⟨m.out,c,0,m.steps,0⟩
 |_=>Q1p
theorem Q98(fu:Int)(fns:List Fun):∀(g:Nat)(m:Ms),goM fu fns g m=(goX fu fns g m).map rsOf
 |0,_=>rfl
 |g+1,m=>by
  simp only[goM,goX]
  cases Q0a fu fns m with
  |next m'=>exact Q98 fu fns g m'
  |done m' v=>rfl
  |fuel=>rfl
  |trap c m'=>rfl
def outR:Rd->Nat
 |.done m _=>m.out.length
 |.trap _ m=>m.out.length
 |.next m=>m.out.length
 |.fuel=>1001
theorem Qi2{fu:Int}{m m':Ms}{n:Int}{l:List Vl}{v:Vl}(h:primM fu m n l=.ok (m',v)):m.out.length<=m'.out.length:=by
 unfold primM at h
 repeat' split at h
 all_goals try (simp only[bind,Except.bind,pure,Except.pure]at h;repeat' split at h)
 all_goals try (cases h;done)
 all_goals try (cases h;exact Nat.le_refl _)
 ·cases h;simp
 ·unfold Q2t at h
  repeat' split at h
  all_goals try (cases h;done)
  cases h;exact Nat.le_refl _
 ·unfold Q2d at h
  simp only[bind,Except.bind,pure,Except.pure]at h
  repeat' split at h
  all_goals try (cases h;done)
  all_goals (cases h;exact Nat.le_refl _)
theorem Qfq{fu:Int}{m m':Ms}{t:Tr}{l:List Vl}{v:Vl}(h:Q0o fu m t l=.ok (m',v)):m.out.length<=m'.out.length:=by
 unfold Q0o at h
 repeat' split at h
 ·cases h;exact Nat.le_refl _
 ·exact Qi2 h
 ·cases h;exact Nat.le_refl _
 ·simp only[bind,Except.bind,pure,Except.pure]at h
  repeat' split at h
  all_goals try (cases h;done)
  all_goals (cases h;exact Nat.le_refl _)
 ·simp only[bind,Except.bind,pure,Except.pure]at h
  repeat' split at h
  all_goals try (cases h;done)
  all_goals (cases h;exact Nat.le_refl _)
theorem Q4k{m m':Ms}{op:Int}{v:Vl}:∀(l k:List Fm),Q2z m op v l k=.ok m'->m'.out=m.out
 |_,[],h=>by cases h
 |l,f::k,h=>by
  unfold Q2z at h
  split at h
  ·cases h;rfl
  ·exact Q4k _ k h
theorem Qg4{fu:Int}{fns:List Fun}{m m':Ms}{f:Fm}{k:List Fm}(h:kidM fu fns m f k=.ok m'):m.out.length<=m'.out.length:=by
 unfold kidM at h
 repeat' split at h
 all_goals try (cases h;done)
 all_goals try (cases h;exact Nat.le_refl _)
 ·unfold Q2c at h
  split at h
  ·cases hc:Q19 _ _ f.e f.t.kids 0 f.t.alts <;> rw[hc]at h <;> cases h
   exact Nat.le_refl _
  ·cases h
 ·unfold callM at h
  repeat' split at h
  all_goals try (cases h;done)
  all_goals (cases h;exact Nat.le_refl _)
 ·rw[Q4k _ _ h];exact Nat.le_refl _
 ·cases hp:Q0o fu { m with k:=k } f.t f.done with
  |error c=>rw[hp]at h;cases h
  |ok mv=>
   rw[hp]at h;cases h
   obtain⟨m2,v2⟩:=mv
   exact Qfq (m:={ m with k:=k }) (m':=m2) hp
theorem Qew{fu:Int}{fns:List Fun}{m m':Ms}{t:Tr}{e:En}(h:Q0h fu fns m t e=.ok m'):m.out.length<=m'.out.length:=by
 unfold Q0h at h
 repeat' split at h
 all_goals try (cases h;done)
 all_goals try (cases h;exact Nat.le_refl _)
 exact Qg4 h
theorem Qfa{fu:Int}{fns:List Fun}{m m':Ms}(h:Q0a fu fns m=.next m'):m.out.length<=m'.out.length:=by
 unfold Q0a at h
 repeat' split at h
 all_goals try (cases h;done)
 ·rename_i hk;cases h;exact Qg4 hk
 ·rename_i hk;cases h;exact Qew (m:={ m with steps:=m.steps+1 }) hk
theorem Qgp{fu:Int}{fns:List Fun}:∀{g:Nat}{m:Ms}{r:Rd},goX fu fns g m=some r->m.out.length<=outR r∨r=.fuel
 |0,_,_,h=>by cases h
 |g+1,m,r,h=>by
  simp only[goX]at h
  cases hr:Q0a fu fns m with
  |next m'=>
   rw[hr]at h
   rcases Qgp h with h1|h1
   ·exact .inl (Nat.le_trans (Qfa hr) h1)
   ·exact .inr h1
  |done m' v=>
   rw[hr]at h;cases h
   unfold Q0a at hr
   repeat' split at hr
   all_goals try (cases hr;done)
   cases hr;exact .inl (Nat.le_refl _)
  |fuel=>rw[hr]at h;cases h;exact .inr rfl
  |trap c m'=>
   rw[hr]at h;cases h
   unfold Q0a at hr
   repeat' split at hr
   all_goals try (cases hr;done)
   all_goals (cases hr;exact .inl (Nat.le_refl _))
def rdOf (m:Ms):Except Int Ms->Rd
 |.ok m'=>.next m'
 |.error c=>.trap c m
theorem Q38{fu:Int}{fns:List Fun}{m:Ms}{t:Tr}{e:En}(hc:m.c=.ev t e)(h:¬m.steps=fu):Q0a fu fns m=rdOf { m with steps:=m.steps+1 } (Q0h fu fns { m with steps:=m.steps+1 } t e):=by
 unfold Q0a
 split
 ·rename_i hv;rw[hc]at hv;cases hv
 ·rename_i hv;rw[hc]at hv;cases hv;rw[if_neg h];rfl
theorem Q47{fu:Int}{fns:List Fun}{m:Ms}{v:Vl}{f:Fm}{k:List Fm}(hc:m.c=.rt v)(hk:m.k=f::k):Q0a fu fns m=rdOf m (kidM fu fns m (.mk f.t f.e (f.done++[v])) k):=by
 simp only[Q0a,hc,hk];rfl
end
end Go.CoreX
namespace Go.CoreX
theorem Qfj{fu n:Int}{m:Ms}{o:Int}{l:List Vl}{x:Except Int (Ms×Vl)}(h:primM fu m o l=x)(hok:∀m' v,x=.ok (m',v)->m'.steps<=n)(her:∀c,x=.error c->0<=c):primM n m o l=x:=by
 unfold primM at h ⊢
 by_cases h8:o=8
 ·subst h8
  simp only[show ¬(8:Int)=0 by decide,show ¬(8:Int)=1 by decide,show ¬(8:Int)=2 by decide,show ¬(8:Int)=3 by decide,show ¬(8:Int)=4 by decide,show ¬(8:Int)=5 by decide,show ¬(8:Int)=6 by decide,show ¬(8:Int)=7 by decide,if_false,if_true,bind,Except.bind]at h ⊢
  cases hw:wordV (l.getD 0 .nil) with
  |error c=>rw[hw]at h;exact h
  |ok a=>
   rw[hw]at h
   simp only[Q2t]at h ⊢
   by_cases hb:a < 0∨1024 < a
   ·rw[if_pos hb]at h ⊢;exact h
   ·rw[if_neg hb]at h ⊢
    by_cases hf:fu - m.steps < a
    ·rw[if_pos hf]at h
     have:=her (-1) h.symm
     omega
    ·rw[if_neg hf]at h
     have:=hok _ _ h.symm
     simp only at this
     rw[if_neg (by omega)];exact h
 ·simp only[if_neg h8]at h ⊢;exact h
theorem Qdp{fu n:Int}{m:Ms}{t:Tr}{l:List Vl}{x:Except Int (Ms×Vl)}(h:Q0o fu m t l=x)(hok:∀m' v,x=.ok (m',v)->m'.steps<=n)(her:∀c,x=.error c->0<=c):Q0o n m t l=x:=by
 unfold Q0o at h ⊢
 by_cases h6:t.op=6
 ·rw[if_pos h6]at h ⊢;exact h
 rw[if_neg h6]at h ⊢
 by_cases h8:t.op=8
 ·rw[if_pos h8]at h ⊢;exact Qfj h hok her
 rw[if_neg h8]at h ⊢;exact h
theorem Qcr{fu n:Int}{fns:List Fun}{m:Ms}{f:Fm}{k:List Fm}{x:Except Int Ms}(h:kidM fu fns m f k=x)(hok:∀m',x=.ok m'->m'.steps<=n)(her:∀c,x=.error c->0<=c):kidM n fns m f k=x:=by
 unfold kidM at h ⊢
 by_cases h0:f.done.length < opdN f.t
 ·rw[if_pos h0]at h ⊢;exact h
 rw[if_neg h0]at h ⊢
 by_cases h1:f.t.op=4
 ·rw[if_pos h1]at h ⊢;exact h
 rw[if_neg h1]at h ⊢
 by_cases h2:f.t.op=7
 ·rw[if_pos h2]at h ⊢;exact h
 rw[if_neg h2]at h ⊢
 by_cases h3:f.t.op=3
 ·rw[if_pos h3]at h ⊢;exact h
 rw[if_neg h3]at h ⊢
 by_cases h4:f.t.op=13
 ·rw[if_pos h4]at h ⊢;exact h
 rw[if_neg h4]at h ⊢
 by_cases h5:f.t.op=12
 ·rw[if_pos h5]at h ⊢;exact h
 rw[if_neg h5]at h ⊢
 by_cases h6:f.t.op=14
 ·rw[if_pos h6]at h ⊢;exact h
 rw[if_neg h6]at h ⊢
 by_cases h7:f.t.op=15
 ·rw[if_pos h7]at h ⊢;exact h
 rw[if_neg h7]at h ⊢
 by_cases h8:f.t.op=16
 ·rw[if_pos h8]at h ⊢;exact h
 rw[if_neg h8]at h ⊢
 rw[Qdp (x:=Q0o fu { m with k:=k } f.t f.done) rfl (fun m' v hx=>by rw[hx]at h;exact hok { m' with c:=.rt v } h.symm) (fun c hx=>by rw[hx]at h;exact her c h.symm)]
 exact h
theorem Qdi{fu n:Int}{fns:List Fun}{m:Ms}{t:Tr}{e:En}{x:Except Int Ms}(h:Q0h fu fns m t e=x)(hok:∀m',x=.ok m'->m'.steps<=n)(her:∀c,x=.error c->0<=c):Q0h n fns m t e=x:=by
 unfold Q0h at h ⊢
 by_cases h0:t.op=0
 ·rw[if_pos h0]at h ⊢;exact h
 rw[if_neg h0]at h ⊢
 by_cases h1:t.op=1
 ·rw[if_pos h1]at h ⊢;exact h
 rw[if_neg h1]at h ⊢
 by_cases h2:t.op=2
 ·rw[if_pos h2]at h ⊢;exact h
 rw[if_neg h2]at h ⊢
 by_cases h3:t.op=17
 ·rw[if_pos h3]at h ⊢;exact h
 rw[if_neg h3]at h ⊢
 by_cases h4:t.op=5
 ·rw[if_pos h4]at h ⊢;exact h
 rw[if_neg h4]at h ⊢
 exact Qcr h hok her
theorem Q66{fu:Int}{fns:List Fun}{m m':Ms}{t:Tr}{e:En}(h:Q0h fu fns m t e=.ok m'):m.steps<=m'.steps:=by
 unfold Q0h at h
 repeat' split at h
 all_goals try (cases h;done)
 all_goals try (cases h;exact Int.le_refl _)
 exact (Q2o h [] .nil (.inr ⟨rfl,rfl⟩)).ge
def Q6m:Rd->Int
 |.done m _=>m.steps
 |.trap _ m=>m.steps
 |.next m=>m.steps
 |.fuel=>0
theorem Q5h{fu n:Int}{fns:List Fun}{m:Ms}{r:Rd}(h:Q0a fu fns m=r)(h1:r≠.fuel)(h2:∀c m',r=.trap c m'->0<=c)(h3:Q6m r<=n):Q0a n fns m=r:=by
 cases hc:m.c with
 |rt v=>
  cases hk:m.k with
  |nil=>
   have e:∀fu,Q0a fu fns m=.done m v:=fun fu=>by simp only[Q0a,hc,hk]
   rw[e]at h ⊢;exact h
  |cons f k=>
   rw[Q47 hc hk]at h ⊢
   rw[Qcr (x:=kidM fu fns m (.mk f.t f.e (f.done++[v])) k) rfl (fun m' hx=>by rw[hx]at h;subst h;exact h3) (fun c hx=>by rw[hx]at h;exact h2 c m h.symm)]
   exact h
 |ev t e=>
  by_cases hs:m.steps=fu
  ·have e:Q0a fu fns m=.fuel:=by simp[Q0a,hc,hs]
   rw[e]at h;exact absurd h.symm h1
  ·rw[Q38 hc hs]at h
   have hge:m.steps+1<=n:=by
    cases hx:Q0h fu fns { m with steps:=m.steps+1 } t e with
    |ok m'=>
     rw[hx]at h;subst h
     have:=Q66 hx
     simp only[rdOf,Q6m]at h3 this;omega
    |error c=>rw[hx]at h;subst h;exact h3
   rw[Q38 hc (by omega)]
   rw[Qdi (x:=Q0h fu fns { m with steps:=m.steps+1 } t e) rfl (fun m' hx=>by rw[hx]at h;subst h;exact h3) (fun c hx=>by rw[hx]at h;exact h2 c _ h.symm)]
   exact h
theorem Qhy{fu:Int}{fns:List Fun}{m m':Ms}(h:Q0a fu fns m=.next m'):m.steps<=m'.steps:=by
 unfold Q0a at h
 repeat' split at h
 all_goals try (cases h;done)
 ·rename_i f k hk _ _ hkid;cases h;exact (Q2o hkid f.done _ (.inl rfl)).ge
 ·rename_i hst;cases h
  have:=Q66 hst
  simp only at this;omega
theorem Q4y{fu:Int}{fns:List Fun}{m:Ms}{r:Rd}(h:Q0a fu fns m=r):(∀c m',r=.trap c m'->m.steps<=m'.steps)/\(∀m' v,r=.done m' v->m'=m/\m.c=.rt v/\m.k=[]):=by
 subst h
 constructor
 ·intro c m' h
  unfold Q0a at h
  repeat' split at h
  all_goals try (cases h;done)
  ·cases h;exact Int.le_refl _
  ·cases h;simp only;omega
 ·intro m' v h
  unfold Q0a at h
  repeat' split at h
  all_goals try (cases h;done)
  rename_i hc _ hk
  cases h;exact⟨rfl,hc,hk⟩
theorem Qd0{fu:Int}{fns:List Fun}:∀{g:Nat}{m:Ms}{r:Rd},goX fu fns g m=some r->r≠.fuel->m.steps<=Q6m r
 |0,_,_,h,_=>by cases h
 |g+1,m,r,h,hf=>by
  simp only[goX]at h
  cases hr:Q0a fu fns m with
  |next m'=>rw[hr]at h;exact Int.le_trans (Qhy hr) (Qd0 h hf)
  |done m' v=>rw[hr]at h;cases h;rw[((Q4y hr).2 _ _ rfl).1];exact Int.le_refl _
  |fuel=>rw[hr]at h;cases h;exact absurd rfl hf
  |trap c m'=>rw[hr]at h;cases h;exact (Q4y hr).1 _ _ rfl
theorem Qd1{fu n:Int}{fns:List Fun}:∀{g:Nat}{m:Ms}{r:Rd},goX fu fns g m=some r->(rsOf r).err=0->Q6m r<=n->goX n fns g m=some r
 |0,_,_,h,_,_=>by cases h
 |g+1,m,r,h,he,hs=>by
  have hf:r≠.fuel:=fun e=>by subst e;simp[rsOf,Q1p]at he
  have ht:∀c m',r=.trap c m'->0<=c:=fun c m' e=>by
   subst e
   simp only[rsOf]at he
   split at he
   ·simp[Q1p]at he
   ·omega
  simp only[goX]at h ⊢
  cases hr:Q0a fu fns m with
  |next m'=>
   rw[hr]at h
   rw[Q5h hr (by simp) (by simp) (Int.le_trans (Qd0 h hf) hs)]
   exact Qd1 h he hs
  |done m' v=>rw[hr]at h;cases h;rw[Q5h hr (by simp) (by simp) hs]
  |fuel=>rw[hr]at h;cases h;exact absurd rfl hf
  |trap c m'=>rw[hr]at h;cases h;rw[Q5h hr (by simp) (fun c' m'' e=>by cases e;exact ht _ _ rfl) hs]
theorem Qc5{r:Rd}(h:(rsOf r).err=0):(rsOf r).steps=Q6m r∨(∃m,r=.next m):=by
 cases r with
 |next m=>exact .inr ⟨m,rfl⟩
 |done m v=>exact .inl rfl
 |fuel=>simp[rsOf,Q1p]at h
 |trap c m=>
  left
  simp only[rsOf]at h ⊢
  split at h
  ·simp[Q1p]at h
  ·rename_i hc;rw[if_neg hc];rfl
theorem Q4o{fu:Int}{fns:List Fun}:∀{g:Nat}{m m':Ms},goX fu fns g m=some (.next m')->False
 |0,_,_,h=>by cases h
 |g+1,m,m',h=>by
  simp only[goX]at h
  cases hr:Q0a fu fns m <;> rw[hr]at h
  ·exact Q4o h
  all_goals cases h
theorem EndsM.x{fu:Int}{fns:List Fun}{m:Ms}{R:Rs}(h:EndsM fu fns m R):∃g r,goX fu fns g m=some r/\R=rsOf r:=by
 obtain⟨g,h⟩:=h
 rw[Q98]at h
 cases hx:goX fu fns g m with
 |none=>rw[hx]at h;cases h
 |some r=>rw[hx]at h;cases h;exact⟨g,r,hx,rfl⟩
theorem EndsM.ofX{fu:Int}{fns:List Fun}{m:Ms}{g:Nat}{r:Rd}(h:goX fu fns g m=some r):EndsM fu fns m (rsOf r):=⟨g,by rw[Q98,h];rfl⟩
theorem EndsM.fuel{fu n:Int}{fns:List Fun}{m:Ms}{R:Rs}(h:EndsM fu fns m R)(he:R.err=0)(hs:R.steps<=n):EndsM n fns m R:=by
 obtain⟨g,r,hx,rfl⟩:=h.x
 refine EndsM.ofX (Qd1 hx he ?_)
 rcases Qc5 he with h1|⟨m',rfl⟩
 ·omega
 ·exact (Q4o hx).elim
theorem EndsM.err{fu:Int}{fns:List Fun}{m:Ms}{R:Rs}(h:EndsM fu fns m R):R=Q1p∨R.err=0:=by
 obtain⟨g,r,hx,rfl⟩:=h.x
 cases r with
 |next m=>exact .inl rfl
 |done m v=>exact .inr rfl
 |fuel=>exact .inl rfl
 |trap c m=>
  simp only[rsOf]
  split
  ·exact .inl rfl
  ·exact .inr rfl
theorem goX_le{fu:Int}{fns:List Fun}:∀{g:Nat}{m:Ms}{r:Rd},goX fu fns g m=some r->m.steps<=fu->r≠.fuel->Q6m r<=fu
 |0,_,_,h,_,_=>by cases h
 |g+1,m,r,h,hs,hf=>by
  simp only[goX]at h
  cases hr:Q0a fu fns m with
  |next m'=>rw[hr]at h;exact goX_le h (Q4j hr hs).1 hf
  |done m' v=>rw[hr]at h;cases h;rw[((Q4y hr).2 _ _ rfl).1];exact hs
  |fuel=>rw[hr]at h;cases h;exact absurd rfl hf
  |trap c m'=>
   rw[hr]at h;cases h
   unfold Q0a at hr
   repeat' split at hr
   all_goals try (cases hr;done)
   ·cases hr;exact hs
   ·cases hr;simp only[Q6m];omega
theorem EndsM.le{fu:Int}{fns:List Fun}{m:Ms}{R:Rs}(h:EndsM fu fns m R)(he:R.err=0)(hm:m.steps<=fu):m.steps<=R.steps/\R.steps<=fu:=by
 obtain⟨g,r,hx,rfl⟩:=h.x
 rcases Qc5 he with h1|⟨m',rfl⟩
 ·have hf:r≠.fuel:=fun e=>by subst e;simp[rsOf,Q1p]at he
  rw[h1];exact⟨Qd0 hx hf,goX_le hx hm hf⟩
 ·exact (Q4o hx).elim
theorem EndsM.less{fu n:Int}{fns:List Fun}{m:Ms}{R:Rs}(h:EndsM fu fns m R)(he:R.err=0)(hn:n < R.steps)(hm:m.steps<=n)(hfu:n<=fu):EndsM n fns m Q1p:=by
 obtain⟨R',h'⟩:=EndsM.total (fns:=fns) hm
 rcases h'.err with e|e
 ·rw[←e];exact h'
 ·have h1:=h'.le e hm
  have h2:=h'.fuel (n:=fu) e (by omega)
  have:=EndsM.det h h2
  rw[this]at hn;omega
end Go.CoreX
namespace Go.Proofs.YtkgjldchcbfpnaaGreatDoor
open Go Go.Abs Go.CoreX
set_option linter.unusedSectionVars false
abbrev tClo:Nat:=198
abbrev tObj:Nat:=160
abbrev tRow:Nat:=248
abbrev tArr:Nat:=300
abbrev tRes:Nat:=239
abbrev tCap:Nat:=192
abbrev tTrap:Nat:=109
abbrev nilPE:AC:=.lit (.pointer none)
abbrev Hm:=Nat->Option (List AC)
abbrev Nm2:=List (Nat×Nat)
def iW (n:Int):AC:=.ifc 3 false [int n]
def iB (t:Nat)(cs:List AC):AC:=.ifc t false [.box cs]
inductive RecC (H:Hm)(t:Tr)(top:AC):Nat->AC->AC->Prop
 |zero (c:AC):RecC H t top 0 c c
 |succ (i k q:Nat) (c b:AC) (hk:H k=some [int (t.binds.getD i 0),.ifc tClo false [.ptr (.o q) 0],c]) (hq:H q=some [.box (cTr (t.kids.getD i default)),top]) (h:RecC H t top i c b):RecC H t top (i+1) (.ptr (.o k) 0) b
mutual
inductive VR (H:Hm)(nm:Nm2):Vl->AC->Prop
 |nil:VR H nm .nil (.lit .nilIface)
 |word (n:Int):VR H nm (.word n) (iW n)
 |clo (t:Tr) (e:En) (c:AC) (he:ER H nm e c):VR H nm (.clo t e) (iB tClo [.box (cTr t),c])
 |cloP (t:Tr) (e:En) (c:AC) (k:Nat) (hk:H k=some [.box (cTr t),c]) (he:ER H nm e c):VR H nm (.clo t e) (.ifc tClo false [.ptr (.o k) 0])
 |obj (g:Int) (fs:List Vl) (cs:List (List AC)) (h:VsR H nm fs cs):VR H nm (.obj g fs) (iB tObj [int g,.sl 1 cs])
 |row (ls:List Int) (fs:List Vl) (cs:List (List AC)) (h:VsR H nm fs cs):VR H nm (.row ls fs) (iB tRow [.sl 1 (ls.map cI),.sl 1 cs])
 |arr (a k n:Nat) (h:nm[a]?=some (k,n)):VR H nm (.arr a) (iB tArr [.arr (.o k) 1 0 n n])
 |res (fs:List Fm) (l:List (List AC)) (h:FsR H nm fs l):VR H nm (.res fs) (iB tRes [.sl 1 l])
 |cap (n:Int) (fs:List Vl) (cs:List (List AC)) (h:VsR H nm fs cs):VR H nm (.cap n fs) (iB tCap [int n,.sl 1 cs])
inductive VsR (H:Hm)(nm:Nm2):List Vl->List (List AC)->Prop
 |nil:VsR H nm [] []
 |cons (v:Vl) (c:AC) (vs:List Vl) (cs:List (List AC)) (hv:VR H nm v c) (h:VsR H nm vs cs):VsR H nm (v::vs) ([c]::cs)
inductive ER (H:Hm)(nm:Nm2):En->AC->Prop
 |nil:ER H nm .nil nilPE
 |bind (i:Int) (v:Vl) (n:En) (k:Nat) (vc nc:AC) (hk:H k=some [int i,vc,nc]) (hv:VR H nm v vc) (hn:ER H nm n nc):ER H nm (.bind i v n) (.ptr (.o k) 0)
 |recs (t:Tr) (n:En) (c nc:AC) (hc:RecC H t c t.binds.length c nc) (hn:ER H nm n nc):ER H nm (.recs t n) c
inductive FR (H:Hm)(nm:Nm2):Fm->AC->Prop
 |mk (t:Tr) (e:En) (d:List Vl) (ec:AC) (dc:List (List AC)) (nx:AC) (hx:nx.ids isO) (he:ER H nm e ec) (hd:VsR H nm d dc):FR H nm (.mk t e d) (.box [.box (cTr t),ec,.sl 1 dc,nx])
inductive FsR (H:Hm)(nm:Nm2):List Fm->List (List AC)->Prop
 |nil:FsR H nm [] []
 |cons (f:Fm) (c:AC) (fs:List Fm) (cs:List (List AC)) (hf:FR H nm f c) (h:FsR H nm fs cs):FsR H nm (f::fs) ([c]::cs)
end
inductive KR (H:Hm)(nm:Nm2):List Fm->AC->Prop
 |nil:KR H nm [] nilPE
 |cons (t:Tr) (e:En) (d:List Vl) (k:List Fm) (ec:AC) (dc:List (List AC)) (kc:AC) (he:ER H nm e ec) (hd:VsR H nm d dc) (hk:KR H nm k kc):KR H nm (.mk t e d::k) (.box [.box (cTr t),ec,.sl 1 dc,kc])
structure Mo (H:Hm)(nm:Nm2)(H':Hm)(nm':Nm2):Prop where
 h:∀k cs,H k=some cs->H' k=some cs
 n:∀(a:Nat) (x:Nat×Nat),nm[a]?=some x->nm'[a]?=some x
theorem Mo.refl(H:Hm)(nm:Nm2):Mo H nm H nm:=⟨fun _ _ h=>h,fun _ _ h=>h⟩
theorem Mo.trans{H H1 H2:Hm}{n n1 n2:Nm2}(a:Mo H n H1 n1)(b:Mo H1 n1 H2 n2):Mo H n H2 n2:=⟨fun k cs h=>b.h k cs (a.h k cs h),fun k x h=>b.n k x (a.n k x h)⟩
section
variable {H H':Hm}{nm nm':Nm2}(hm:Mo H nm H' nm')
include hm
theorem RecC.mo{t:Tr}{top:AC}:∀{i:Nat}{c b:AC},RecC H t top i c b->RecC H' t top i c b
 |_,_,_,.zero c=>.zero c
 |_,_,_,.succ i k q c b hk hq h=>.succ i k q c b (hm.h _ _ hk) (hm.h _ _ hq) (RecC.mo h)
mutual
theorem VR.mo:∀{v:Vl}{c:AC},VR H nm v c->VR H' nm' v c
 |_,_,.nil=>.nil
 |_,_,.word n=>.word n
 |_,_,.clo t e c he=>.clo t e c (ER.mo he)
 |_,_,.cloP t e c k hk he=>.cloP t e c k (hm.h _ _ hk) (ER.mo he)
 |_,_,.obj g fs cs h=>.obj g fs cs (VsR.mo h)
 |_,_,.row ls fs cs h=>.row ls fs cs (VsR.mo h)
 |_,_,.arr a k n h=>.arr a k n (hm.n _ _ h)
 |_,_,.res fs l h=>.res fs l (FsR.mo h)
 |_,_,.cap n fs cs h=>.cap n fs cs (VsR.mo h)
theorem VsR.mo:∀{v:List Vl}{c:List (List AC)},VsR H nm v c->VsR H' nm' v c
 |_,_,.nil=>.nil
 |_,_,.cons v c vs cs hv h=>.cons v c vs cs (VR.mo hv) (VsR.mo h)
theorem ER.mo:∀{e:En}{c:AC},ER H nm e c->ER H' nm' e c
 |_,_,.nil=>.nil
 |_,_,.bind i v n k vc nc hk hv hn=>.bind i v n k vc nc (hm.h _ _ hk) (VR.mo hv) (ER.mo hn)
 |_,_,.recs t n c nc hc hn=>.recs t n c nc (RecC.mo hm hc) (ER.mo hn)
theorem FR.mo:∀{f:Fm}{c:AC},FR H nm f c->FR H' nm' f c
 |_,_,.mk t e d ec dc nx hx he hd=>.mk t e d ec dc nx hx (ER.mo he) (VsR.mo hd)
theorem FsR.mo:∀{f:List Fm}{c:List (List AC)},FsR H nm f c->FsR H' nm' f c
 |_,_,.nil=>.nil
 |_,_,.cons f c fs cs hf h=>.cons f c fs cs (FR.mo hf) (FsR.mo h)
end
theorem KR.mo:∀{k:List Fm}{c:AC},KR H nm k c->KR H' nm' k c
 |_,_,.nil=>.nil
 |_,_,.cons t e d k ec dc kc he hd hk=>.cons t e d k ec dc kc (ER.mo hm he) (VsR.mo hm hd) (KR.mo hk)
end
section
variable {H:Hm}{nm:Nm2}
theorem RecC.ids{t:Tr}{top:AC}:∀{i:Nat}{c b:AC},RecC H t top i c b->b.ids isO->c.ids isO
 |_,_,_,.zero c,h=>h
 |_,_,_,.succ i k q c b hk hq h,_=>trivial
mutual
theorem VR.ids:∀{v:Vl}{c:AC},VR H nm v c->c.ids isO
 |_,_,.nil=>trivial
 |_,_,.word n=>by simp[iW,AC.ids,idsL]
 |_,_,.clo t e c he=>⟨⟨by simp,ER.ids he,trivial⟩,trivial⟩
 |_,_,.cloP t e c k hk he=>⟨trivial,trivial⟩
 |_,_,.obj g fs cs h=>⟨⟨trivial,VsR.ids h,trivial⟩,trivial⟩
 |_,_,.row ls fs cs h=>⟨⟨by simp,VsR.ids h,trivial⟩,trivial⟩
 |_,_,.arr a k n h=>⟨⟨trivial,trivial⟩,trivial⟩
 |_,_,.res fs l h=>⟨⟨FsR.ids h,trivial⟩,trivial⟩
 |_,_,.cap n fs cs h=>⟨⟨trivial,VsR.ids h,trivial⟩,trivial⟩
theorem VsR.ids:∀{v:List Vl}{c:List (List AC)},VsR H nm v c->idsS isO c
 |_,_,.nil=>trivial
 |_,_,.cons v c vs cs hv h=>⟨⟨VR.ids hv,trivial⟩,VsR.ids h⟩
theorem ER.ids:∀{e:En}{c:AC},ER H nm e c->c.ids isO
 |_,_,.nil=>trivial
 |_,_,.bind i v n k vc nc hk hv hn=>trivial
 |_,_,.recs t n c nc hc hn=>RecC.ids hc (ER.ids hn)
theorem FR.ids:∀{f:Fm}{c:AC},FR H nm f c->c.ids isO
 |_,_,.mk t e d ec dc nx hx he hd=>⟨by simp,ER.ids he,VsR.ids hd,hx,trivial⟩
theorem FsR.ids:∀{f:List Fm}{c:List (List AC)},FsR H nm f c->idsS isO c
 |_,_,.nil=>trivial
 |_,_,.cons f c fs cs hf h=>⟨⟨FR.ids hf,trivial⟩,FsR.ids h⟩
end
theorem KR.ids:∀{k:List Fm}{c:AC},KR H nm k c->c.ids isO
 |_,_,.nil=>trivial
 |_,_,.cons t e d k ec dc kc he hd hk=>⟨by simp,ER.ids he,VsR.ids hd,KR.ids hk,trivial⟩
theorem VsR.len:∀{v:List Vl}{c:List (List AC)},VsR H nm v c->c.length=v.length
 |_,_,.nil=>rfl
 |_,_,.cons v c vs cs hv h=>by simp[VsR.len h]
theorem VsR.get:∀{v:List Vl}{c:List (List AC)}{i:Nat}{x:Vl},VsR H nm v c->v[i]?=some x->∃y,c[i]?=some [y]/\VR H nm x y
 |_,_,i,x,.nil,hx=>by simp at hx
 |_,_,0,x,.cons v c vs cs hv h,hx=>by simp at hx;subst hx;exact⟨c,rfl,hv⟩
 |_,_,i+1,x,.cons v c vs cs hv h,hx=>VsR.get (i:=i) h (by simpa using hx)
theorem VsR.snoc:∀{v:List Vl}{c:List (List AC)}{x:Vl}{y:AC},VsR H nm v c->VR H nm x y->VsR H nm (v++[x]) (c++[[y]])
 |_,_,x,y,.nil,hx=>.cons x y [] [] hx .nil
 |_,_,x,y,.cons v c vs cs hv h,hx=>.cons v c _ _ hv (VsR.snoc h hx)
theorem VsR.drop:∀{v:List Vl}{c:List (List AC)}(n:Nat),VsR H nm v c->VsR H nm (v.drop n) (c.drop n)
 |_,_,0,h=>by simpa using h
 |_,_,n+1,.nil=>.nil
 |_,_,n+1,.cons v c vs cs hv h=>VsR.drop n h
end
end Go.Proofs.YtkgjldchcbfpnaaGreatDoor
