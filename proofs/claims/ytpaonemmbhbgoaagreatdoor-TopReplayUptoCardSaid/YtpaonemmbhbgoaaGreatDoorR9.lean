/- at, below, Free, Cut, Size, CoreCut, walked. -/
import Derived.Test.YtpaonemmbhbgoaaGreatDoorR8
set_option maxRecDepth 10000
set_option linter.unusedVariables false
set_option linter.unusedSimpArgs false
namespace Go.Proofs.YtpaonemmbhbgoaaGreatDoor
open Go Go.Abs Go.CoreX
variable {Γ:List (Nat×List AC)}
end Go.Proofs.YtpaonemmbhbgoaaGreatDoor
namespace Go.CoreX
mutual
def cntN:Tr->Nat
 |.mk _ _ _ k _=>cntNs k+1
def cntNs:List Tr->Nat
 |[]=>0
 |t::l=>cntN t+cntNs l
end
mutual
theorem Q27:∀(t:Tr)(out:List Ex),(listT out t).length=out.length+cntN t
 |.mk o n b k a,out=>by
  have:=Qbw k out
  simp only[listT,cntN,List.length_append,List.length_singleton];omega
theorem Qbw:∀(l:List Tr)(out:List Ex),(Q02 out l).1.length=out.length+cntNs l
 |[],out=>by simp[Q02,cntNs]
 |t::l,out=>by
  have h1:=Q27 t out
  have h2:=Qbw l (listT out t)
  simp only[Q02,cntNs];omega
end
theorem Q5h:∀(l r:List Tr),cntNs (l++r)=cntNs l+cntNs r
 |[],r=>by simp[cntNs]
 |t::l,r=>by simp only[List.cons_append,cntNs,Q5h l r];omega
end Go.CoreX
namespace Go.Proofs.YtpaonemmbhbgoaaGreatDoor
open Go Go.Abs Go.CoreX
variable {Γ:List (Nat×List AC)}
theorem Q47{e:List Ex}(he:okB e)(h:IsTree e){k:Nat}(hk:k < e.length):okT (Q0b e k):=
 Qkb h (P:=okT) (he.t h.k h.ne) (fun _ _ ht hs=>Q2k ht hs) k hk
end Go.Proofs.YtpaonemmbhbgoaaGreatDoor
namespace Go.CoreX
theorem Qnu{e:List Ex}(h:check e=0):∀x∈e,shape x=true:=by
 intro x hx
 unfold check body at h
 by_cases h1:Q1m e=0
 ·rw[if_neg (by simpa using h1)]at h
  by_cases h2:Q1k (Q0l false e) e=0
  ·have h3:=(Q1u _ e).1 h2 x hx
   unfold Q0l at h3
   simp only[Bool.false_and,Bool.not_false,Bool.true_and,Bool.false_or]at h3
   by_cases h4:Q4n x.op=true
   ·rw[if_pos h4]at h3;cases h3
   ·rw[if_neg h4]at h3
    unfold Q1h at h3
    by_cases h5:shape x=false
    ·rw[if_pos h5]at h3;cases h3
    ·simpa using h5
  ·rw[if_pos h2]at h;exact absurd h h2
 ·rw[if_pos h1]at h;exact absurd h h1
theorem Qj3{x:Ex}(h:shape x=true):if x.op=7∨x.op=13 then x.kids.length=x.alts.length+1 else x.alts=[]:=by
 unfold shape at h
 split
 ·rename_i ho
  rw[if_pos ho]at h
  simp only[Q5y,Bool.and_eq_true,beq_iff_eq]at h
  omega
 ·rename_i ho
  rw[if_neg ho]at h
  split at h
  ·cases h
  ·simp only[Bool.and_eq_true,beq_iff_eq]at h
   exact List.length_eq_zero_iff.1 h.1.2
end Go.CoreX
namespace Go.Proofs.YtpaonemmbhbgoaaGreatDoor
open Go Go.Abs Go.CoreX
variable {Γ:List (Nat×List AC)}
def ow8 (l:List Int):Option Nat->AC
 |none=>.lit (.slice none 0 0)
 |some cap=>.arr (.l 0) 1 0 (l.map cI).length cap
def st8 (l:List Int)(ou:Outer):Option Nat->St
 |none=>⟨0,[],ou⟩
 |some cap=>⟨1,[(0,.cells (vec 1 (l.map cI) cap))],ou⟩
@[simp] theorem ids_ow8 (l l':List Int) (ou:Outer) (oc:Option Nat):(ow8 l oc).ids (inL (st8 l' ou oc).n):=by cases oc <;> simp[ow8,st8,AC.ids,inL]
end Go.Proofs.YtpaonemmbhbgoaaGreatDoor
namespace Go.CoreX
end Go.CoreX
namespace Go.Proofs.YtpaonemmbhbgoaaGreatDoor
open Go Go.Abs Go.CoreX
variable {Γ:List (Nat×List AC)}
end Go.Proofs.YtpaonemmbhbgoaaGreatDoor
namespace Go.CoreX
open Go.Abs (orI subI anI)
def ex0:Ex:=⟨0,0,[],[],[]⟩
def exN (e:List Ex)(i:Nat):Ex:=e.getD i ex0
def shK (e:List Ex)(k:Int):Tr:=.mk (exN e k.toNat).op (exN e k.toNat).n (exN e k.toNat).binds [] []
end Go.CoreX
namespace Go.Proofs.YtpaonemmbhbgoaaGreatDoor
open Go Go.Abs Go.CoreX
variable {Γ:List (Nat×List AC)}
def shD (e:List Ex)(l:List Int):List (List AC):=l.map fun k=>cB (shK e k)
@[simp] theorem ids_shD (p:Abs.Id->Prop) (e:List Ex) (l:List Int):idsS p (shD e l):=Q2y (fun k=>by simp[cB]) l
@[simp] theorem ren_shD (ρ:Nat->Nat) (e:List Ex) (l:List Int):renS ρ (shD e l)=shD e l:=Q23 ρ _ (by simp)
end Go.Proofs.YtpaonemmbhbgoaaGreatDoor
namespace Go.CoreX
end Go.CoreX
namespace Go.Proofs.YtpaonemmbhbgoaaGreatDoor
open Go Go.Abs Go.CoreX
variable {Γ:List (Nat×List AC)}
theorem W_ok(hΓ:∀g cs,(g,cs)∈Γ->idsL isO cs)(n:Int):APure Tryz.prog Γ 25 [.one (int n)] (.one (.box (cNd (.mk 1 n [] [] [])))):=by
 intro ou
 refine AFn.walk 5 tabOk Tryz.func25 rfl (by kernel_rfl) rfl rfl fun hou=>?_
 refine zA ?_
 refine AOps.callCW (ws:=[.one (int 1),.one (int n),.one (.sl 1 (Q38 []))]) hΓ (N_ok 1 n []) rfl rfl rfl rfl rfl rfl ?_ hou (by simp) ?_
 ·exact .cons (.refl _) (.cons (.refl _) (.cons (.one (.nilS 1)) .nil))
 refine zA ?_
 exact APure.fin rfl (WkF.ofEq rfl) (by simp) hou rfl
end Go.Proofs.YtpaonemmbhbgoaaGreatDoor
namespace Go.CoreX
end Go.CoreX
namespace Go.Proofs.YtpaonemmbhbgoaaGreatDoor
open Go Go.Abs Go.CoreX
variable {Γ:List (Nat×List AC)}
end Go.Proofs.YtpaonemmbhbgoaaGreatDoor
namespace Go.CoreX
abbrev Nb:=Option (Nat×Nat)
structure LAlt where
 tag:Int
 nb:Nb
 binds:List Int
def LAlt.er (a:LAlt):Alt:=⟨a.tag,a.binds⟩
inductive LTr where
 |mk (id:Nat) (op n:Int) (nb:Nb) (binds:List Int) (kids:List LTr) (alts:List LAlt)
instance:Inhabited LTr:=⟨.mk 0 0 0 none [] [] []⟩
def LTr.id:LTr->Nat|.mk i _ _ _ _ _ _=>i
def LTr.kids:LTr->List LTr|.mk _ _ _ _ _ k _=>k
mutual
def erT:LTr->Tr
 |.mk _ o n _ b k a=>.mk o n b (erTs k) (a.map LAlt.er)
def erTs:List LTr->List Tr
 |[]=>[]
 |t::ts=>erT t::erTs ts
end
theorem Q0g:∀l:List LTr,erTs l=l.map erT
 |[]=>rfl
 |t::l=>by simp[erTs,Q0g l]
end Go.CoreX
namespace Go.Proofs.YtpaonemmbhbgoaaGreatDoor
open Go Go.Abs Go.CoreX
variable {Γ:List (Nat×List AC)}
def bC:Nb->List Int->AC
 |none,l=>.sl 1 (l.map cI)
 |some (a,cap),l=>.arr (.o a) 1 0 (l.map cI).length cap
def bO:Nb->List Int->List (Nat×AObj)
 |none,_=>[]
 |some (a,cap),l=>[(a,.cells (vec 1 (l.map cI) cap))]
def lAlt (x:LAlt):List AC:=[int x.tag,bC x.nb x.binds]
def aO (l:List LAlt):List (Nat×AObj):=l.flatMap fun x=>bO x.nb x.binds
def kC (l:List LTr):List (List AC):=l.map fun t=>[.ptr (.o t.id) 0]
def lC:LTr->List AC
 |.mk _ o n nb b k a=>[int o,int n,bC nb b,.sl 1 (kC k),.sl 2 (a.map lAlt)]
mutual
def objs:LTr->List (Nat×AObj)
 |.mk i o n nb b k a=>(i,.cells [int o,int n,bC nb b,.sl 1 (kC k),.sl 2 (a.map lAlt)])::(bO nb b++aO a)++objss k
def objss:List LTr->List (Nat×AObj)
 |[]=>[]
 |t::ts=>objs t++objss ts
end
abbrev keys (l:List (Nat×AObj)):List Nat:=l.map (·.1)
def Owns (ou:Outer)(l:List (Nat×AObj)):Prop:=∀p∈l,ou p.1=some p.2
theorem Owns.app{ou:Outer}{l r:List (Nat×AObj)}:Owns ou (l++r)↔Owns ou l/\Owns ou r:=by
 unfold Owns
 constructor
 ·exact fun h=>⟨fun p hp=>h p (by simp[hp]),fun p hp=>h p (by simp[hp])⟩
 ·rintro⟨h1,h2⟩ p hp
  rcases List.mem_append.1 hp with hp|hp
  ·exact h1 p hp
  ·exact h2 p hp
theorem Owns.frame{ou ou':Outer}{l:List (Nat×AObj)}(h:Owns ou l)(hf:∀j∈keys l,ou' j=ou j):Owns ou' l:=fun p hp=>(hf p.1 (List.mem_map_of_mem hp)).trans (h p hp)
theorem Q3s:∀l:List LTr,objss l=l.flatMap objs
 |[]=>rfl
 |t::l=>by simp[objss,Q3s l]
theorem Q3l(l r:List LTr):objss (l++r)=objss l++objss r:=by simp[Q3s]
theorem Qbq:∀t:LTr,t.id∈keys (objs t)
 |.mk i o n nb b k a=>by simp[objs,LTr.id]
theorem Q09{ou:Outer}:∀{t:LTr},Owns ou (objs t)->ou t.id=some (.cells (lC t))
 |.mk i o n nb b k a,h=>h (i,.cells [int o,int n,bC nb b,.sl 1 (kC k),.sl 2 (a.map lAlt)]) (by simp[objs])
theorem Qa1(p:Abs.Id->Prop)(hp:∀k,p (.o k))(nb:Nb)(l:List Int):(bC nb l).ids p:=by
 cases nb with
 |none=>simp[bC,AC.ids]
 |some x=>exact hp _
theorem Q8f(p:Abs.Id->Prop)(hp:∀k,p (.o k))(l:List LTr):idsS p (kC l):=Q2y (f:=fun t:LTr=>[.ptr (.o t.id) 0]) (fun t=>by simp only[idsL,AC.ids,and_true];exact hp _) l
theorem Q5b(p:Abs.Id->Prop)(hp:∀k,p (.o k))(l:List LAlt):idsS p (l.map lAlt):=Q2y (f:=lAlt) (fun t=>by simp only[lAlt,idsL,AC.ids,and_true,true_and];exact Qa1 p hp _ _) l
theorem Qmy{Γ:List (Nat×List AC)}{F:Nat->Prop}{w:World}{C C':Ctx}{σ:St}(hi:Inv Γ F w C σ)(hc:Chg isO w C w C'){nb:Nb}{l:List Int}(ho:Owns σ.ou (bO nb l))(hp:∀k∈keys (bO nb l),∀a:Addr,a.block=C.blk (.o k)->C'.prot a){v:Value}
  (hr:R w C (bC nb l) v):R w C' (.sl 1 (l.map cI)) v:=by
 cases nb with
 |none=>exact R.chg hc (.sl 1 (l.map cI)) v (Qg4 _ _) hr
 |some x=>
  obtain⟨a,cap⟩:=x
  have hg:σ.get (.o a)=some (.cells (vec 1 (l.map cI) cap)):=ho (a,.cells (vec 1 (l.map cI) cap)) (by simp[bO])
  obtain⟨hok,zs,T,b1,b2,b3,b4⟩:=hi.obj _ _ hg
  simp only[bC,R,Nat.zero_mul]at hr
  refine⟨some ⟨C.blk (.o a),0,none⟩,cap,hr.2.1,hr.2.2,.inr ⟨_,rfl,rfl,?_⟩⟩
  have hl:∀x∈l.map cI,x.length=1:=fun x hx=>by obtain⟨n,_,rfl⟩:=List.mem_map.1 hx;rfl
  have hfl:=Q3x hl
  have hzl:=RV.length b3
  have hfi:idsL isO (l.map cI).flatten:=by
   refine Q6y.2 fun c hc=>?_
   obtain⟨e,he,hce⟩:=List.mem_flatten.1 hc
   obtain⟨n,_,rfl⟩:=List.mem_map.1 he
   simp[cI]at hce;subst hce;trivial
  have hv:RV w C' (l.map cI).flatten (zs.take ((l.map cI).length * 1)):=by
   refine RV.chg hc _ _ hfi ?_
   have:=b3.take ((l.map cI).length * 1)
   rwa [vec,List.take_append_of_le_length (by omega),List.take_of_length_le (by omega)]at this
  refine RS.ofVals 0 hl hv fun j v hj=>⟨?_,hp a (by simp[bO]) _ rfl⟩
  have h2:j < (l.map cI).length * 1:=by have:=(List.getElem?_eq_some_iff.1 hj).1;simp at this ⊢;omega
  rw[List.getElem?_take_of_lt h2]at hj
  rw[Nat.zero_add,cell_of_row _ _ _ _ _ _ b1]
  simpa using hj
theorem Qn3{Γ:List (Nat×List AC)}{F:Nat->Prop}{w:World}{C C':Ctx}{σ:St}(hi:Inv Γ F w C σ)(hc:Chg isO w C w C'):∀{l:List LAlt},Owns σ.ou (aO l)->(∀k∈keys (aO l),∀a:Addr,a.block=C.blk (.o k)->C'.prot a)->∀ad:Addr,
  RS w C 2 (l.map lAlt) ad->RS w C' 2 ((l.map LAlt.er).map cAlt) ad
 |[],_,_,ad,_=>by simp[RS]
 |x::l,ho,hp,ad,hr=>by
  have e:aO (x::l)=bO x.nb x.binds++aO l:=rfl
  rw[e]at ho hp
  obtain⟨ho1,ho2⟩:=Owns.app.1 ho
  simp only[List.map_cons,RS,lAlt,RL]at hr
  obtain⟨_,⟨⟨u,hu,hup,hur⟩,⟨v,hv,hvp,hvr⟩,_⟩,hrest⟩:=hr
  refine⟨rfl,⟨⟨u,hu,hc.prot _ hup,R.chg hc _ u trivial hur⟩,⟨v,hv,hc.prot _ hvp,?_⟩,trivial⟩,Qn3 hi hc ho2 (fun k hk=>hp k (by simp[keys]at hk ⊢;exact .inr hk)) _ hrest⟩
  exact Qmy hi hc ho1 (fun k hk=>hp k (by simp[keys]at hk ⊢;exact .inl hk)) hvr
mutual
theorem Qcl{Γ:List (Nat×List AC)}{F:Nat->Prop}{w:World}{C C':Ctx}{σ:St}(hi:Inv Γ F w C σ)(hc:Chg isO w C w C'):∀t:LTr,Owns σ.ou (objs t)->(∀k∈keys (objs t),∀a:Addr,a.block=C.blk (.o k)->C'.prot a)->RL w C' (cTr (erT t)) ⟨C.blk (.o t.id),0,none⟩
 |.mk i o n nb b k a,ho,hp=>by
  have hg:σ.get (.o i)=some (.cells (lC (.mk i o n nb b k a))):=Q09 (t:=.mk i o n nb b k a) ho
  obtain⟨hok,zs,T,b1,b2,b3,b4⟩:=hi.obj _ _ hg
  have e:objs (.mk i o n nb b k a)=[(i,.cells [int o,int n,bC nb b,.sl 1 (kC k),.sl 2 (a.map lAlt)])]++((bO nb b++aO a)++objss k):=by simp[objs]
  rw[e]at ho hp
  obtain⟨_,ho2⟩:=Owns.app.1 ho
  obtain⟨ho3,hok2⟩:=Owns.app.1 ho2
  obtain⟨hob,hoa⟩:=Owns.app.1 ho3
  have hpb:∀k'∈keys (bO nb b),∀a:Addr,a.block=C.blk (.o k')->C'.prot a:=fun k' hk=>hp k' (by simp[keys]at hk ⊢;exact .inr (.inl hk))
  have hpa:∀k'∈keys (aO a),∀a:Addr,a.block=C.blk (.o k')->C'.prot a:=fun k' hk=>hp k' (by simp[keys]at hk ⊢;exact .inr (.inr (.inl hk)))
  have hpk:∀k'∈keys (objss k),∀a:Addr,a.block=C.blk (.o k')->C'.prot a:=fun k' hk=>hp k' (by simp[keys]at hk ⊢;exact .inr (.inr (.inr hk)))
  simp only[lC,RV,R]at b3
  obtain⟨v1,_,rfl,⟨rfl,_⟩,v2,_,rfl,⟨rfl,_⟩,v3,_,rfl,h3,v4,_,rfl,⟨a4,c4,rfl,l4,h4⟩,v5,_,rfl,⟨a5,c5,rfl,l5,h5⟩,rfl⟩:=b3
  have hrv:RV w C' (cTr (erT (.mk i o n nb b k a))) [.int .i64 o,.int .i64 n,v3,.slice a4 (kC k).length c4,.slice a5 (a.map lAlt).length c5]:=by
   simp only[cTr,erT,Tr.op_mk,Tr.n_mk,Tr.binds_mk,Tr.kids_mk,Tr.alts_mk,RV]
   refine⟨_,_,rfl,by simp[R,Value.oneCell'],_,_,rfl,by simp[R,Value.oneCell'],_,_,rfl,Qmy hi hc hob hpb h3,_,_,rfl,?_,_,_,rfl,?_,rfl⟩
   ·refine⟨a4,c4,by simp[kC,Q0g],by simpa[kC,Q0g]using l4,?_⟩
    rcases h4 with h4|⟨ad,rfl,hs,h4⟩
    ·left
     simp only[kC,List.map_eq_nil_iff]at h4
     subst h4;rfl
    ·exact .inr ⟨ad,rfl,hs,Qeb hi hc k hok2 hpk ad h4⟩
   ·refine⟨a5,c5,by simp,by simpa using l5,?_⟩
    rcases h5 with h5|⟨ad,rfl,hs,h5⟩
    ·left
     simp only[List.map_eq_nil_iff]at h5
     subst h5;rfl
    ·exact .inr ⟨ad,rfl,hs,Qn3 hi hc hoa hpa ad h5⟩
  refine RL.of_new 0 hrv (fun j v hj=>?_) (fun ad ha=>?_)
  ·rw[Nat.zero_add]
   show w.cell? ⟨C.blk (.o i),j,none⟩=some v
   rw[cell_of_row _ _ _ _ _ _ b1]
   simpa using hj
  ·exact hp i (by simp[keys]) _ ha
theorem Qeb{Γ:List (Nat×List AC)}{F:Nat->Prop}{w:World}{C C':Ctx}{σ:St}(hi:Inv Γ F w C σ)(hc:Chg isO w C w C'):∀l:List LTr,Owns σ.ou (objss l)->(∀k∈keys (objss l),∀a:Addr,a.block=C.blk (.o k)->C'.prot a)->∀ad:Addr,RS w C 1 (kC l) ad->RS w C' 1 (Q10 (erTs l)) ad
 |[],_,_,ad,_=>by simp[erTs,Q10,RS]
 |t::l,ho,hp,ad,hr=>by
  have e:objss (t::l)=objs t++objss l:=rfl
  rw[e]at ho hp
  obtain⟨ho1,ho2⟩:=Owns.app.1 ho
  simp only[kC,List.map_cons,RS,RL,R]at hr
  obtain⟨_,⟨⟨u,hu,hup,_,hur⟩,_⟩,hrest⟩:=hr
  simp only[erTs,Q10,RS]
  refine⟨rfl,⟨⟨u,hu,hc.prot _ hup,⟨_,hur,rfl,?_⟩⟩,trivial⟩,Qeb hi hc l ho2 (fun k hk=>hp k (by simp[keys]at hk ⊢;exact .inr hk)) _ hrest⟩
  rw[Qih]
  exact Qcl hi hc t ho1 fun k hk=>hp k (by simp[keys]at hk ⊢;exact .inl hk)
end
mutual
theorem Q7o:∀t:LTr,∀p∈objs t,∃cs,p.2=.cells cs
 |.mk i o n nb b k a,p,hp=>by
  simp only[objs,List.cons_append,List.mem_cons,List.mem_append]at hp
  have hb:∀(nb:Nb) (l:List Int),∀p∈bO nb l,∃cs,p.2=.cells cs:=fun nb l p hp=>by
   cases nb with
   |none=>simp[bO]at hp
   |some x=>simp[bO]at hp;subst hp;exact⟨_,rfl⟩
  rcases hp with rfl|(hp|hp)|hp
  ·exact⟨_,rfl⟩
  ·exact hb _ _ p hp
  ·unfold aO at hp
   obtain⟨x,_,hx⟩:=List.mem_flatMap.1 hp
   exact hb _ _ p hx
  ·exact Q9p k p hp
theorem Q9p:∀l:List LTr,∀p∈objss l,∃cs,p.2=.cells cs
 |[],p,hp=>by simp[objss]at hp
 |t::l,p,hp=>by
  simp only[objss,List.mem_append]at hp
  rcases hp with hp|hp
  ·exact Q7o t p hp
  ·exact Q9p l p hp
end
theorem LendF.tree{σ:St}{t:LTr}(h:Owns σ.ou (objs t)):LendF σ (.one (.ptr (.o t.id) 0)) (.one (.box (cTr (erT t)))):=by
 intro Γ F w C v hi hr
 simp only[RF,R]at hr
 refine⟨_,hr.2,rfl,Qcl hi hi.stillChg t h fun k hk a ha=>?_⟩
 obtain⟨p,hp,rfl⟩:=List.mem_map.1 hk
 obtain⟨cs,hcs⟩:=Q7o t p hp
 show a.block < w.heap.size
 rw[ha]
 exact (AObj.block_lt (hi.obj (.o p.1) p.2 (h p hp)).2 (by rw[hcs];rfl)).2
def deadL (ou:Outer)(l:List Nat):Outer:=fun j=>if j∈l then some .dead else ou j
theorem Q9z{Γ:List (Nat×List AC)}{F:Nat->Prop}{w:World}:∀(l:List (Nat×AObj)){C:Ctx}{σ:St},Inv Γ F w C σ->Owns σ.ou l->(keys l).Nodup->(∀p∈l,∃cs,p.2=.cells cs)->
  ∃C',Goes F (fun _=>True) w C w C'/\Inv Γ F w C' { σ with ou:=deadL σ.ou (keys l) }/\(∀i,C'.blk i=C.blk i)/\∀k∈keys l,∀a:Addr,a.block=C.blk (.o k)->C'.prot a
 |[],C,σ,hi,_,_,_=>⟨C,Goes.refl _ _ _ _,by rw[show deadL σ.ou (keys [])=σ.ou from funext fun j=>by simp[deadL]];exact hi,fun _=>rfl,fun k hk=>by simp at hk⟩
 |(k,o)::l,C,σ,hi,ho,hn,hc=>by
  obtain⟨cs,rfl⟩:∃cs,o=.cells cs:=hc (k,o) (by simp)
  simp only[keys,List.map_cons,List.nodup_cons]at hn
  have hg:σ.get (.o k)=some (.cells cs):=ho (k,.cells cs) (by simp)
  obtain⟨h1,h2,h3⟩:=hi.freeze hg
  have ho2:Owns (σ.set (.o k) .dead).ou l:=fun p hp=>by
   have hne:p.1≠k:=fun e=>hn.1 (e▸List.mem_map_of_mem hp)
   show (bif Nat.beq p.1 k then some AObj.dead else σ.ou p.1)=some p.2
   rw[Q05 hne]
   exact ho p (by simp[hp])
  obtain⟨C',g1,g2,g3,g4⟩:=Q9z l h2 ho2 hn.2 fun p hp=>hc p (by simp[hp])
  refine⟨C',h1.trans g1,?_,fun i=>g3 i,fun j hj a ha=>?_⟩
  ·have e:({ σ.set (.o k) .dead with ou:=deadL (σ.set (.o k) .dead).ou (keys l) }:St)={ σ with ou:=deadL σ.ou (keys ((k,.cells cs)::l)) }:=by
    show St.mk σ.n σ.lo _=St.mk σ.n σ.lo _
    congr 1
    funext j
    show deadL (fun j=>bif Nat.beq j k then some AObj.dead else σ.ou j) (keys l) j=_
    unfold deadL
    by_cases e:j=k
    ·subst e;simp
    ·simp only[Q05 e,cond_false,keys,List.map_cons,List.mem_cons,e,false_or]
   rw[←e];exact g2
  ·simp only[keys,List.map_cons,List.mem_cons]at hj
   rcases hj with rfl|hj
   ·exact g1.chg.prot a (.inr ha)
   ·exact g4 j hj a ha
end Go.Proofs.YtpaonemmbhbgoaaGreatDoor
namespace Go.CoreX
def frB (f:Int)(l:List Int):List Int:=(List.range l.length).map fun i:Nat=>f+i
def frN (m:Nm)(f:Int)(l:List Int):Nm:=putsN m l (frB f l)
def frTo (f:Int)(l:List Int)(j:Nat):List Int:=((List.range j).map fun i:Nat=>f+i)++l.drop j
theorem Qmn(f:Int)(l:List Int):frTo f l 0=l:=by simp[frTo]
theorem Qot(f:Int)(l:List Int):frTo f l l.length=frB f l:=by simp[frTo,frB]
theorem Qid(f:Int)(l:List Int){j:Nat}(h:j<=l.length):(frTo f l j).length=l.length:=by simp[frTo];omega
theorem Qos(f:Int){l:List Int}{j:Nat}{n:Int}(h:l[j]?=some n):(frTo f l j)[j]?=some n:=by
 unfold frTo
 rw[List.getElem?_append_right (by simp)]
 simp[h]
theorem Qor(f:Int){l:List Int}{j:Nat}(h:j < l.length):(frTo f l j).set j (f+j)=frTo f l (j+1):=by
 unfold frTo
 rw[List.set_append_right _ _ (by simp)]
 simp only[List.length_map,List.length_range,Nat.sub_self]
 rw[List.drop_eq_getElem_cons h,List.set_cons_zero,List.range_succ,List.map_append,List.append_assoc]
 rfl
theorem Qa7(f:Int)(l:List Int):(frB f l).length=l.length:=by simp[frB]
theorem frB_get{f:Int}{l:List Int}{j:Nat}(h:j < l.length):(frB f l)[j]?=some (f+j):=by simp[frB,h]
end Go.CoreX
namespace Go.Proofs.YtpaonemmbhbgoaaGreatDoor
open Go Go.Abs Go.CoreX
variable {Γ:List (Nat×List AC)}
theorem Qc5(l:List Int)(cap:Nat):vec 1 (l.map cI) cap=l.map int++List.replicate (cap - l.length) .any:=by
 unfold vec
 have e:(l.map cI).flatten=l.map int:=by
  induction l with
  |nil=>rfl
  |cons n l ih=>simp only[List.map_cons,List.flatten_cons,ih];rfl
 rw[e];simp
theorem Qnk{l:List Int}{cap i:Nat}{v:Int}(h:l[i]?=some v):(vec 1 (l.map cI) cap)[i]?=some (int v):=by
 rw[Qc5,List.getElem?_append_left (by simpa using (List.getElem?_eq_some_iff.1 h).1)]
 simp[h]
theorem Qnj{l:List Int}{cap i:Nat}(v:Int)(h:i < l.length):(vec 1 (l.map cI) cap).set i (int v)=vec 1 ((l.set i v).map cI) cap:=by
 rw[Qc5,Qc5,List.set_append_left _ _ (by simpa using h),List.length_set,List.map_set]
theorem vecI_lt{l:List Int}{cap i:Nat}(h:i < l.length):i < (vec 1 (l.map cI) cap).length:=by
 rw[Qc5];simp;omega
theorem OuOk.set{σ:St}{k:Nat}{o:AObj}(h:OuOk σ.ou)(ho:o.ids isO):OuOk (σ.set (.o k) o).ou:=by
 intro j p hj
 have hj':(bif Nat.beq j k then some o else σ.ou j)=some p:=hj
 by_cases e:j=k
 ·subst e;simp at hj';subst hj';exact ho
 ·rw[Q05 e]at hj';exact h j p hj'
theorem Q4f{σ:St}{k:Nat}{o:AObj}:(σ.set (.o k) o).ou k=some o:=by show (bif Nat.beq k k then _ else _)=_;simp
theorem Q1c{σ:St}{j k:Nat}{o:AObj}(h:j≠k):(σ.set (.o k) o).ou j=σ.ou j:=by show (bif Nat.beq j k then _ else _)=_;rw[Q05 h];rfl
structure RnS (ou:Outer)(kn km kf:Nat)(nm:Nm)(ck:Nat)(l:List (Nat×Int×Int))(f:Int):Prop where
 n:ou kn=some (.cells [.mp (.o km)])
 m:ou km=some (.map ck (encI eN l))
 k:IMOk nm ck l
 f:ou kf=some (.cells [int f])
theorem RnS.ne{ou:Outer}{kn km kf:Nat}{nm:Nm}{ck:Nat}{l:List (Nat×Int×Int)}{f:Int}(h:RnS ou kn km kf nm ck l f):kn≠km/\kn≠kf/\km≠kf:=by
 refine⟨fun e=>?_,fun e=>?_,fun e=>?_⟩
 ·have:=h.n;rw[e,h.m]at this;cases this
 ·have:=h.n;rw[e,h.f]at this;cases this
 ·have:=h.m;rw[e,h.f]at this;cases this
def FreshQ (ou:Outer)(kn km kf:Nat)(nm:Nm)(f:Int)(nb:Nb)(b:List Int)(r:FV)(ou':Outer):Prop:=
 r=.tup []/\∃ck' l',RnS ou' kn km kf (frN nm f b) ck' l' (f+b.length)/\Owns ou' (bO nb (frB f b))/\OuOk ou'/\∀j,j≠km->j≠kf->j∉keys (bO nb b)->ou' j=ou j
theorem Qib(hΓ:∀g cs,(g,cs)∈Γ->idsL isO cs)(nb:Nb)(b:List Int)(hb:nb=none->b=[])(hl:b.length<=1048576)(ou:Outer)(kn km kf:Nat)(nm:Nm)(ck:Nat)(l:List (Nat×Int×Int))(f:Int)(h:RnS ou kn km kf nm ck l f)
  (ho:Owns ou (bO nb b)) (hd:∀k∈keys (bO nb b),k≠kn/\k≠km/\k≠kf) (hf0:0<=f) (hf1:f+b.length<=4611686018427387904) (hou0:OuOk ou):
  AFn Tryz.prog Γ 167 [.one (bC nb b),.one (.ptr (.o kf) 0),.one (.ptr (.o kn) 0)] ou (FreshQ ou kn km kf nm f nb b):=by
 cases nb with
 |none=>
  obtain rfl:=hb rfl
  refine AFn.walk 23 tabOk Tryz.func167 rfl (by kernel_rfl) rfl rfl fun hou=>?_
  refine zA ?_
  refine ACode.loopR hΓ (α:=Unit) (fun _=>[(7,.one (int 0)),(6,.one (int 0))]) (fun _=>⟨0,[],ou⟩) (fun m _=>m=0) (a0:=()) (ρ:=id) rfl (LessR.of rfl zFS (by simp) .nil rfl rfl hou) fun m a hm=>?_
  refine zA ?_
  refine AFn.fin' rfl (WkF.refl _) (by simp) hou ⟨rfl,ck,l,?_,by simpa[frB,bO]using ho,hou0,fun _ _ _ _=>rfl⟩
  simpa[frN,putsN]using h
 |some x=>
  obtain⟨a,cap⟩:=x
  obtain⟨da1,da2,da3⟩:=hd a (by simp[bO])
  have hoa:ou a=some (.cells (vec 1 (b.map cI) cap)):=ho (a,.cells (vec 1 (b.map cI) cap)) (by simp[bO])
  obtain⟨dn1,dn2,dn3⟩:=h.ne
  refine AFn.walk 23 tabOk Tryz.func167 rfl (by kernel_rfl) rfl rfl fun hou=>?_
  refine zA ?_
  refine ACode.loopR hΓ (α:=Nat×Outer×Nat×List (Nat×Int×Int)) (fun c=>[(7,.one (int c.1)),(6,.one (int (b.map cI).length)),(2,.one (.ptr (.o kn) 0)),(1,.one (.ptr (.o kf) 0)),(0,.one (.arr (.o a) 1 0 (b.map cI).length cap))])
   (fun c=>⟨0,[],c.2.1⟩) (fun m c=>c.1<=b.length/\(RnS c.2.1 kn km kf (putsN nm (b.take c.1) ((frB f b).take c.1)) c.2.2.1 c.2.2.2 (f+c.1)/\c.2.1 a=some (.cells (vec 1 ((frTo f b c.1).map cI) cap))/\OuOk c.2.1/\∀j,j≠km->j≠kf->j≠a->c.2.1 j=ou j)/\m=b.length - c.1)
   (a0:=(0,ou,ck,l)) (ρ:=id) ⟨by omega,⟨by simpa[putsN]using h,by rw[Qmn];exact hoa,hou0,fun _ _ _ _=>rfl⟩,rfl⟩ (LessR.of rfl zFS (by simp) .nil rfl rfl hou) fun m c hc=>?_
  clear hoa h ho
  obtain⟨j,ov,ck,l⟩:=c
  obtain⟨hjl,⟨hR,ha,hok,hfr⟩,rfl⟩:=hc
  simp only at hjl hR ha hok hfr
  refine zA ?_
  refine ACode.cond rfl (fun hb2=>?_) (fun hb2=>?_)
  ·have hlt:j < b.length:=by simpa using hb2
   obtain⟨n,hn⟩:=Q00 hlt
   have hgn:=Qos f hn
   refine zA ?_
   refine ACode.drawX tabOk 6 [(0,.one (.mp (.o km))),(3,.one (.ptr (.o a) j)),(4,.one (int n)),(5,.one (int (f+j)))] follows (by kernel_rfl) rfl rfl rfl rfl ?_ ?_
   ·refine .step rfl (zHP (zLD rfl rfl hR.n rfl)) (.step rfl (zHP (idxI tabOk rfl rfl rfl rfl rfl rfl rfl (by simpa using hlt))) ?_)
    refine .step rfl (zHP (zLD rfl rfl ha (Qnk hgn))) ?_
    exact .step rfl (zHP (zLD rfl rfl hR.f rfl)) .nil
   refine AOps.putI eN (v:=f+j) rfl rfl rfl Tryz.underlying122 Tryz.underlying3 rfl hR.m rfl rfl hR.k fun ck' l' hm'=>?_
   have e1:=(Q1c (σ:=⟨0,[],ov⟩) (o:=.map ck' (encI eN l')) (Ne.symm dn3)).trans hR.f
   have e2:=(Q1c (σ:=⟨0,[],ov⟩) (o:=.map ck' (encI eN l')) da2).trans ha
   refine zA ?_
   refine zS (zLD rfl rfl e1 rfl) ?_
   refine zS (idxI tabOk rfl rfl rfl rfl rfl rfl rfl (by simpa using hlt)) ?_
   refine AOps.storeOwn tabOk rfl rfl rfl rfl rfl rfl rfl e2 (vecI_lt (by rw[Qid f b hjl];exact hlt)) ?_
   rw[Qnj _ (by rw[Qid f b hjl];exact hlt),Qor f hlt]
   refine zA ?_
   have e3:=(Q1c (σ:=St.set ⟨0,[],ov⟩ (.o km) (.map ck' (encI eN l'))) (o:=.cells (vec 1 ((frTo f b (j+1)).map cI) cap)) (Ne.symm da3)).trans e1
   refine zS (zLD rfl rfl e3 rfl) ?_
   refine zS (AStep.arith rfl rfl rfl (.inl ⟨rfl,rfl⟩) zI) ?_
   refine AOps.storeOwn tabOk rfl rfl rfl rfl rfl rfl rfl e3 (by simp) ?_
   refine zM ?_
   refine cInv ⟨b.length - (j+1),(j+1,(St.set (St.set (St.set ⟨0,[],ov⟩ (.o km) (.map ck' (encI eN l'))) (.o a) (.cells (vec 1 ((frTo f b (j+1)).map cI) cap))) (.o kf) (.cells [int (f+j+1)])).ou,ck',l'),id,by omega,⟨by omega,⟨⟨?_,?_,?_,?_⟩,?_,?_,fun i h1 h2 h3=>?_⟩,rfl⟩,LessR.of rfl zFS (by simp) .nil rfl rfl ?_⟩
   all_goals try dsimp only
   ·rw[Q1c dn2,Q1c (Ne.symm da1),Q1c dn1];exact hR.n
   ·rw[Q1c dn3,Q1c (Ne.symm da2),Q4f]
   ·rw[Q7j hn (frB_get hlt)];exact hm'
   ·rw[Q4f,show f+((j+1:Nat):Int)=f+j+1 by omega]
   ·rw[Q1c da3,Q4f]
   ·exact OuOk.set (OuOk.set (OuOk.set (σ:=⟨0,[],ov⟩) hok (Q2x _ _ _)) (Q8v _ _ _)) (by simp)
   ·rw[Q1c h2,Q1c h3,Q1c h1];exact hfr i h1 h2 h3
   ·exact OuOk.set (OuOk.set (OuOk.set (σ:=⟨0,[],ov⟩) hok (Q2x _ _ _)) (Q8v _ _ _)) (by simp)
  ·have hlt:j=b.length:=by simp at hb2;omega
   subst hlt
   refine zA ?_
   refine AFn.fin' rfl (WkF.refl _) (by simp) hok ⟨rfl,ck,l,?_,?_,hok,fun i h1 h2 h3=>hfr i h1 h2 (by simpa[bO]using h3)⟩
   ·have:=hR
    rw[List.take_length,List.take_of_length_le (by rw[Qa7];omega)]at this
    exact this
   ·intro p hp
    simp[bO]at hp
    subst hp
    show ov a=_
    rw[ha,Qot]
end Go.Proofs.YtpaonemmbhbgoaaGreatDoor
namespace Go.CoreX
def rnAs (nm:Nm)(f:Int):List LAlt->List LAlt×Nm×Int
 |[]=>([],nm,f)
 |x::l=>(⟨x.tag,x.nb,frB f x.binds⟩::(rnAs (frN nm f x.binds) (f+x.binds.length) l).1,(rnAs (frN nm f x.binds) (f+x.binds.length) l).2)
def ren1 (o:Int)(nm:Nm)(f:Int)(b:List Int):List Int×Nm×Int:=if o=9 then (b,nm,f)else (frB f b,frN nm f b,f+b.length)
mutual
def rnL (nm:Nm)(f:Int):LTr->LTr×Nm×Int
 |.mk i o n nb b k a=>
  let s1:=ren1 o nm f b
  let s2:=rnAs s1.2.1 s1.2.2 a
  let s3:=rnLs s2.2.1 s2.2.2 k
  (.mk i o (if o=0 then (nm n).getD n else n) nb s1.1 s3.1 s2.1,s3.2)
def rnLs (nm:Nm)(f:Int):List LTr->List LTr×Nm×Int
 |[]=>([],nm,f)
 |t::l=>((rnL nm f t).1::(rnLs (rnL nm f t).2.1 (rnL nm f t).2.2 l).1,(rnLs (rnL nm f t).2.1 (rnL nm f t).2.2 l).2)
end
theorem Qe5(x:LAlt):∀(l:List LAlt)(nm:Nm)(f:Int),rnAs nm f (l++[x])=((rnAs nm f l).1++[⟨x.tag,x.nb,frB (rnAs nm f l).2.2 x.binds⟩],frN (rnAs nm f l).2.1 (rnAs nm f l).2.2 x.binds,(rnAs nm f l).2.2+x.binds.length)
 |[],nm,f=>rfl
 |y::l,nm,f=>by simp only[List.cons_append,rnAs,Qe5 x l]
theorem Qe4(t:LTr):∀(l:List LTr)(nm:Nm)(f:Int),rnLs nm f (l++[t])=((rnLs nm f l).1++[(rnL (rnLs nm f l).2.1 (rnLs nm f l).2.2 t).1],(rnL (rnLs nm f l).2.1 (rnLs nm f l).2.2 t).2)
 |[],nm,f=>by simp[rnLs]
 |y::l,nm,f=>by simp only[List.cons_append,rnLs,Qe4 t l]
-- How many identifiers are bound (and renamed).
def nbA (l:List LAlt):Nat:=(l.map fun x=>x.binds.length).sum
mutual
def nbL:LTr->Nat
 |.mk _ o _ _ b k a=>(if o=9 then 0 else b.length)+nbA a+nbLs k
def nbLs:List LTr->Nat
 |[]=>0
 |t::l=>nbL t+nbLs l
end
theorem ren1_f(o:Int)(nm:Nm)(f:Int)(b:List Int):(ren1 o nm f b).2.2=f+(if o=9 then 0 else b.length:Nat):=by
 unfold ren1;split <;> simp
theorem Qhe:∀(l:List LAlt)(nm:Nm)(f:Int),(rnAs nm f l).2.2=f+nbA l
 |[],_,_=>by simp[rnAs,nbA]
 |x::l,nm,f=>by simp only[rnAs,Qhe l,nbA,List.map_cons,List.sum_cons];push_cast;omega
mutual
theorem rnL_f:∀(t:LTr)(nm:Nm)(f:Int),(rnL nm f t).2.2=f+nbL t
 |.mk i o n nb b k a,nm,f=>by
  simp only[rnL,Qky k,Qhe,ren1_f,nbL];push_cast;omega
theorem Qky:∀(l:List LTr)(nm:Nm)(f:Int),(rnLs nm f l).2.2=f+nbLs l
 |[],_,_=>by simp[rnLs,nbLs]
 |t::l,nm,f=>by simp only[rnLs,Qky l,rnL_f t,nbLs];push_cast;omega
end
theorem Qlq(l r:List LAlt):nbA (l++r)=nbA l+nbA r:=by simp[nbA]
theorem Qcr:∀l r:List LTr,nbLs (l++r)=nbLs l+nbLs r
 |[],r=>by simp[nbLs]
 |t::l,r=>by simp only[List.cons_append,nbLs,Qcr l r];omega
-- A list that is renamed is own, unless it is empty.
def ownB (nb:Nb)(b:List Int):Prop:=nb=none->b=[]
mutual
def okL:LTr->Prop
 |.mk _ o _ nb b k a=>(o≠9->ownB nb b)/\b.length<=1048576/\k.length<=1048576/\a.length<=1048576/\(∀x∈a,ownB x.nb x.binds/\x.binds.length<=1048576)/\okLs k
def okLs:List LTr->Prop
 |[]=>True
 |t::l=>okL t/\okLs l
end
theorem Qco:∀{l:List LTr},okLs l↔∀t∈l,okL t
 |[]=>by simp[okLs]
 |t::l=>by simp[okLs,Qco (l:=l)]
theorem frB_nil(f:Int):frB f []=[]:=rfl
end Go.CoreX
namespace Go.Proofs.YtpaonemmbhbgoaaGreatDoor
open Go Go.Abs Go.CoreX
variable {Γ:List (Nat×List AC)}
theorem bC_fr{nb:Nb}{b:List Int}(h:ownB nb b)(f:Int):bC nb (frB f b)=bC nb b:=by
 cases nb with
 |none=>rw[h rfl,frB_nil]
 |some x=>obtain⟨a,cap⟩:=x;simp[bC,Qa7]
theorem Qg0(nb:Nb)(b b':List Int):keys (bO nb b)=keys (bO nb b'):=by cases nb <;> rfl
theorem lAlt_fr{x:LAlt}(h:ownB x.nb x.binds)(f:Int):lAlt ⟨x.tag,x.nb,frB f x.binds⟩=lAlt x:=by simp only[lAlt,bC_fr h]
theorem rnAs_c:∀{l:List LAlt}{nm:Nm}{f:Int},(∀x∈l,ownB x.nb x.binds)->(rnAs nm f l).1.map lAlt=l.map lAlt
 |[],_,_,_=>rfl
 |x::l,nm,f,h=>by
  have ih:=rnAs_c (l:=l) (nm:=frN nm f x.binds) (f:=f+x.binds.length) fun y hy=>h y (by simp[hy])
  simp only[rnAs,List.map_cons,lAlt_fr (h x (by simp)),ih]
theorem Q0v(l r:List (Nat×AObj)):keys (l++r)=keys l++keys r:=by simp[keys]
theorem Qan(x:LAlt)(l:List LAlt):aO (x::l)=bO x.nb x.binds++aO l:=rfl
theorem Qao(l r:List LAlt):aO (l++r)=aO l++aO r:=by simp[aO]
theorem Qhd:∀(l:List LAlt)(nm:Nm)(f:Int),keys (aO (rnAs nm f l).1)=keys (aO l)
 |[],_,_=>rfl
 |x::l,nm,f=>by simp only[rnAs,Qan,Q0v,Qhd l];rw[Qg0 x.nb _ x.binds]
theorem ren1_c{o:Int}{nb:Nb}{b:List Int}(h:o≠9->ownB nb b)(nm:Nm)(f:Int):bC nb (ren1 o nm f b).1=bC nb b:=by
 unfold ren1
 split
 ·rfl
 ·exact bC_fr (h (by assumption)) f
mutual
theorem rnL_id:∀(t:LTr)(nm:Nm)(f:Int),(rnL nm f t).1.id=t.id
 |.mk i o n nb b k a,nm,f=>rfl
theorem rnLs_c:∀(l:List LTr)(nm:Nm)(f:Int),kC (rnLs nm f l).1=kC l
 |[],_,_=>rfl
 |t::l,nm,f=>by
  have h1:=rnL_id t nm f
  have h2:=rnLs_c l (rnL nm f t).2.1 (rnL nm f t).2.2
  unfold kC at h2 ⊢
  simp only[rnLs,List.map_cons,h1,h2]
end
mutual
theorem rnL_k:∀(t:LTr)(nm:Nm)(f:Int),keys (objs (rnL nm f t).1)=keys (objs t)
 |.mk i o n nb b k a,nm,f=>by
  have h1:=Qkx k (rnAs (ren1 o nm f b).2.1 (ren1 o nm f b).2.2 a).2.1 (rnAs (ren1 o nm f b).2.1 (ren1 o nm f b).2.2 a).2.2
  have h2:=Qhd a (ren1 o nm f b).2.1 (ren1 o nm f b).2.2
  have h3:=Qg0 nb (ren1 o nm f b).1 b
  simp only[keys]at h1 h2 h3
  simp only[rnL,objs,keys,List.map_cons,List.map_append,h1,h2,h3]
theorem Qkx:∀(l:List LTr)(nm:Nm)(f:Int),keys (objss (rnLs nm f l).1)=keys (objss l)
 |[],_,_=>rfl
 |t::l,nm,f=>by
  have h1:=rnL_k t nm f
  have h2:=Qkx l (rnL nm f t).2.1 (rnL nm f t).2.2
  simp only[keys]at h1 h2
  simp only[rnLs,objss,keys,List.map_append,h1,h2]
end
def fnR (kn kf kw:Nat):AC:=.fn (.func 166) [] [.ptr (.o kn) 0,.ptr (.o kf) 0,.ptr (.o kw) 0]
def RenQ (ou:Outer)(kn km kf:Nat)(nm:Nm)(f:Int)(t:LTr)(r:FV)(ou':Outer):Prop:=
 r=.tup []/\∃ck' l',RnS ou' kn km kf (rnL nm f t).2.1 ck' l' (rnL nm f t).2.2/\Owns ou' (objs (rnL nm f t).1)/\OuOk ou'/\∀j,j≠km->j≠kf->j∉keys (objs t)->ou' j=ou j
def RenOk (Γ:List (Nat×List AC))(t:LTr):Prop:=∀(ou:Outer)(kn km kf kw:Nat)(nm:Nm)(ck:Nat)(l:List (Nat×Int×Int))(f:Int),RnS ou kn km kf nm ck l f->ou kw=some (.cells [fnR kn kf kw])->Owns ou (objs t)->(keys (objs t)).Nodup->
 (∀k∈keys (objs t),k≠kn/\k≠km/\k≠kf/\k≠kw)->0<=f->f+nbL t<=4611686018427387904->OuOk ou->
 AFn Tryz.prog Γ 166 [.one (.ptr (.o t.id) 0),.one (.ptr (.o kn) 0),.one (.ptr (.o kf) 0),.one (.ptr (.o kw) 0)] ou (RenQ ou kn km kf nm f t)
theorem Q3v(o n:Int)(nb:Nb)(b:List Int)(ks:List LTr)(a:List LAlt):(AObj.cells [int o,int n,bC nb b,.sl 1 (kC ks),.sl 2 (a.map lAlt)]).ids isO:=
 ⟨trivial,trivial,Qa1 _ (fun _=>trivial) _ _,Q8f _ (fun _=>trivial) _,Q5b _ (fun _=>trivial) _,trivial⟩
structure NdS (ou ov:Outer)(kn km kf kw i:Nat)(cs:List AC)(K:List Nat)(nm:Nm)(ck:Nat)(l:List (Nat×Int×Int))(f:Int)(Lb La Lk:List (Nat×AObj)):Prop where
 R:RnS ov kn km kf nm ck l f
 w:ov kw=some (.cells [fnR kn kf kw])
 i:ov i=some (.cells cs)
 b:Owns ov Lb
 a:Owns ov La
 k:Owns ov Lk
 ok:OuOk ov
 fr:∀j,j≠km->j≠kf->j∉K->ov j=ou j
theorem NdS.frame{ou ov ow:Outer}{kn km kf kw i:Nat}{cs:List AC}{K S:List Nat}{nm nm':Nm}{ck ck':Nat}{l l':List (Nat×Int×Int)}{f f':Int}{Lb La Lk Lb' La' Lk':List (Nat×AObj)}(h:NdS ou ov kn km kf kw i cs K nm ck l f Lb La Lk)
  (hR:RnS ow kn km kf nm' ck' l' f') (hok:OuOk ow) (hfr:∀j,j≠km->j≠kf->j∉S->ow j=ov j) (hS:∀j∈S,j∈K/\j≠i) (hK:∀k∈K,k≠kn/\k≠km/\k≠kf/\k≠kw) (hi:i∈K) (hw:kw≠km/\kw≠kf)
  (hb:Owns ow Lb') (ha:Owns ow La') (hk:Owns ow Lk'):NdS ou ow kn km kf kw i cs K nm' ck' l' f' Lb' La' Lk' where
 R:=hR
 w:=(hfr kw hw.1 hw.2 fun hj=>(hK kw (hS kw hj).1).2.2.2 rfl).trans h.w
 i:=(hfr i (hK i hi).2.1 (hK i hi).2.2.1 fun hj=>(hS i hj).2 rfl).trans h.i
 b:=hb
 a:=ha
 k:=hk
 ok:=hok
 fr:=fun j h1 h2 h3=>(hfr j h1 h2 fun hj=>h3 (hS j hj).1).trans (h.fr j h1 h2 h3)
theorem Qb7(hΓ:∀g cs,(g,cs)∈Γ->idsL isO cs):∀t:LTr,okL t->RenOk Γ t
 |.mk i o n nb b ks a,hok=>by
  obtain⟨hnb,hbl,hkl,hal,hax,hks⟩:=hok
  have ih:∀t∈ks,RenOk Γ t:=fun t ht=>Qb7 hΓ t (Qco.1 hks t ht)
  intro ou kn km kf kw nm ck l f hR hw ho hnd hdis hf0 hf1 hou0
  have hni:=Q09 ho
  have e0:objs (.mk i o n nb b ks a)=(i,.cells [int o,int n,bC nb b,.sl 1 (kC ks),.sl 2 (a.map lAlt)])::((bO nb b++aO a)++objss ks):=rfl
  obtain⟨K,hKe⟩:∃K,K=keys (objs (.mk i o n nb b ks a)):=⟨_,rfl⟩
  have hKm:∀j,j∈K↔j=i∨j∈keys (bO nb b)∨j∈keys (aO a)∨j∈keys (objss ks):=fun j=>by rw[hKe,e0];simp[keys]
  have hKi:i∈K:=(hKm i).2 (.inl rfl)
  rw[←hKe]at hnd hdis
  have hnd2:i∉keys (bO nb b)/\i∉keys (aO a)/\i∉keys (objss ks)/\(keys (bO nb b)).Nodup/\(keys (aO a)).Nodup/\(keys (objss ks)).Nodup/\(∀x∈keys (bO nb b),x∉keys (aO a)/\x∉keys (objss ks))/\∀x∈keys (aO a),x∉keys (objss ks):=by
   rw[hKe,e0]at hnd
   simp only[keys,List.map_cons,List.map_append,List.nodup_cons,List.nodup_append,List.mem_append,not_or]at hnd
   obtain⟨⟨⟨n1,n2⟩,n3⟩,⟨n4,n5,n6⟩,n7,n8⟩:=hnd
   exact⟨n1,n2,n3,n4,n5,n7,fun x hx=>⟨fun h=>n6 x hx x h rfl,fun h=>n8 x (.inl hx) x h rfl⟩,fun x hx h=>n8 x (.inr hx) x h rfl⟩
  obtain⟨nib,nia,nik,_,nda,ndk,nbx,nax⟩:=hnd2
  rw[e0]at ho
  have ho1:Owns ou ((bO nb b++aO a)++objss ks):=fun p hp=>ho p (by simp only[List.mem_cons];exact .inr hp)
  obtain⟨hob,hoa⟩:=Owns.app.1 (Owns.app.1 ho1).1
  have hokk:=(Owns.app.1 ho1).2
  simp only[LTr.id,lC]at hni ⊢
  obtain⟨d1,d2,d3⟩:=hR.ne
  have hik:=hdis i hKi
  have hww:kw≠km/\kw≠kf:=⟨fun e=>(by have:=hR.m;rw[←e,hw]at this;cases this),fun e=>(by have:=hR.f;rw[←e,hw]at this;cases this)⟩
  have h0:NdS ou ou kn km kf kw i [int o,int n,bC nb b,.sl 1 (kC ks),.sl 2 (a.map lAlt)] K nm ck l f (bO nb b) (aO a) (objss ks):=⟨hR,hw,hni,hob,hoa,hokk,hou0,fun _ _ _ _=>rfl⟩
  have hnbf:(if o=9 then 0 else b.length)+nbA a+nbLs ks=nbL (.mk i o n nb b ks a):=rfl
  obtain⟨n',hn'⟩:∃n':Int,n'=if o=0 then (nm n).getD n else n:=⟨_,rfl⟩
  refine AFn.walk 76 tabOk Tryz.func166 rfl (by kernel_rfl) rfl rfl fun hou=>?_
  refine zA ?_
  refine ACode.drawX tabOk 10 [(0,.one (.mp (.o km))),(4,.one (int n)),(5,.tup [.one (int ((nm n).getD 0)),.one (.lit (.bool (nm n).isSome))])] follows (by kernel_rfl) rfl rfl rfl rfl ?_ ?_
  ·refine .step rfl (zHP (zLD rfl rfl hR.n rfl)) (.step rfl (zHP (zLD rfl rfl hni rfl)) ?_)
   exact .step rfl (zHP (AStep.lookI eN (cm:=true) (v:=.one (int ((nm n).getD 0))) rfl Tryz.underlying122 Tryz.underlying3 rfl hR.m rfl (by kernel_rfl) zeroN hR.k (by cases nm n <;> rfl))) .nil
  refine zA ?_
  refine AOps.cutN 1 rfl hΓ (α:=Outer) (fun _=>[(0,.one (.ptr (.o i) 0)),(1,.one (.ptr (.o kn) 0)),(2,.one (.ptr (.o kf) 0)),(3,.one (.ptr (.o kw) 0))]) (fun ov=>⟨0,[],ov⟩)
   (fun ov => NdS ou ov kn km kf kw i [int o, int n', bC nb b, .sl 1 (kC ks), .sl 2 (a.map lAlt)] K nm ck l f (bO nb b) (aO a) (objss ks)) ?_ fun ov hov => ?_
  ·dsimp only [List.take_succ_cons,List.take_zero,List.cons_append,List.nil_append]
   refine AOps.splitG rfl rfl rfl (fun hb5=>?_) (fun hb5=>?_)
   ·obtain⟨v,hv⟩:=Option.isSome_iff_exists.1 hb5
    refine zM ?_
    refine zS (zLD rfl rfl hni rfl) ?_
    refine zM ?_
    refine ACode.cond rfl (fun hb6=>?_) (fun hb6=>?_)
    ·have h00:o=0:=by simpa using hb6
     have hnv:n'=v:=by rw[hn',if_pos h00,hv];rfl
     subst hnv
     rw[hv]
     refine zM ?_
     refine AOps.storeOwn tabOk rfl rfl rfl rfl rfl rfl rfl hni (by simp) ?_
     refine zM ?_
     refine cInv ⟨(St.set ⟨0,[],ou⟩ (.o i) (.cells [int o,int n',bC nb b,.sl 1 (kC ks),.sl 2 (a.map lAlt)])).ou,id,?_,LessR.of rfl zFS (by simp) .nil rfl rfl ?_⟩
     ·have hne:∀{j:Nat},j≠i->(St.set ⟨0,[],ou⟩ (.o i) (.cells [int o,int n',bC nb b,.sl 1 (kC ks),.sl 2 (a.map lAlt)])).ou j=ou j:=fun {j} hj=>Q1c hj
      refine⟨⟨(hne (Ne.symm hik.1)).trans hR.n,(hne (Ne.symm hik.2.1)).trans hR.m,hR.k,(hne (Ne.symm hik.2.2.1)).trans hR.f⟩,(hne (Ne.symm hik.2.2.2)).trans hw,Q4f,hob.frame fun j hj=>hne fun e=>nib (e▸hj),hoa.frame fun j hj=>hne fun e=>nia (e▸hj),hokk.frame fun j hj=>hne fun e=>nik (e▸hj),OuOk.set (σ:=⟨0,[],ou⟩) hou0 (Q3v _ _ _ _ _ _),fun j h1 h2 h3=>hne fun e=>h3 (e▸hKi)⟩
     ·exact OuOk.set (σ:=⟨0,[],ou⟩) hou0 (Q3v _ _ _ _ _ _)
    ·have h00:¬o=0:=by simpa using hb6
     have hnv:n'=n:=by rw[hn',if_neg h00]
     subst hnv
     refine zM ?_
     exact cInv ⟨ou,id,h0,LessR.of rfl zFS (by simp) .nil rfl rfl hou⟩
   ·have hv:nm n=none:=by simpa using hb5
    have hnv:n'=n:=by rw[hn',hv];simp
    subst hnv
    refine zM ?_
    exact cInv ⟨ou,id,h0,LessR.of rfl zFS (by simp) .nil rfl rfl hou⟩
  clear h0 hR hw hni hob hoa hokk
  have hok0:=hov.ok
  refine zA ?_
  refine zS (zLD rfl rfl hov.i rfl) ?_
  refine AOps.cutN 1 rfl hΓ (α:=Outer×Nat×List (Nat×Int×Int)) (fun _=>[(7,.one (.fn (.func 167) [] [.ptr (.o kf) 0,.ptr (.o kn) 0])),(0,.one (.ptr (.o i) 0)),(1,.one (.ptr (.o kn) 0)),(2,.one (.ptr (.o kf) 0)),(3,.one (.ptr (.o kw) 0))]) (fun c=>⟨0,[],c.1⟩)
   (fun c => NdS ou c.1 kn km kf kw i [int o, int n', bC nb b, .sl 1 (kC ks), .sl 2 (a.map lAlt)] K (ren1 o nm f b).2.1 c.2.1 c.2.2 (ren1 o nm f b).2.2 (bO nb (ren1 o nm f b).1) (aO a) (objss ks)) ?_ fun c hov2 => ?_
  ·dsimp only [List.take_succ_cons,List.take_zero,List.cons_append,List.nil_append]
   refine zM ?_
   refine ACode.cond rfl (fun hb6=>?_) (fun hb6=>?_)
   ·have h9:o≠9:=by simpa using hb6
    have hr1:ren1 o nm f b=(frB f b,frN nm f b,f+b.length):=by unfold ren1;rw[if_neg h9]
    rw[hr1]
    rw[if_neg h9]at hnbf
    refine zM ?_
    refine zS (zLD rfl rfl hov.i rfl) ?_
    refine AOps.call1 hΓ rfl rfl rfl rfl rfl rfl rfl (by exact⟨Qa1 _ (fun _=>trivial) _ _,trivial,trivial,trivial⟩) hok0
     (Qib hΓ nb b (hnb h9) hbl ov kn km kf nm _ _ f hov.R hov.b (fun k hk=>⟨(hdis k ((hKm k).2 (.inr (.inl hk)))).1,(hdis k ((hKm k).2 (.inr (.inl hk)))).2.1,(hdis k ((hKm k).2 (.inr (.inl hk)))).2.2.1⟩) hf0 (by omega) hok0) fun r ow hq hids how=>?_
    obtain⟨rfl,ck',l',hR',hO',hok',hfr'⟩:=hq
    refine zM ?_
    refine cInv ⟨(ow,ck',l'),id,?_,LessR.of rfl zFS (by simp) .nil rfl rfl hok'⟩
    refine hov.frame (S:=keys (bO nb b)) hR' hok' hfr' (fun j hj=>⟨(hKm j).2 (.inr (.inl hj)),fun e=>nib (e▸hj)⟩) hdis hKi hww hO' (hov.a.frame fun j hj=>?_) (hov.k.frame fun j hj=>?_)
    ·have hj':=hdis j ((hKm j).2 (.inr (.inr (.inl hj))))
     exact hfr' j hj'.2.1 hj'.2.2.1 fun h=>(nbx j h).1 hj
    ·have hj':=hdis j ((hKm j).2 (.inr (.inr (.inr hj))))
     exact hfr' j hj'.2.1 hj'.2.2.1 fun h=>(nbx j h).2 hj
   ·have h9:o=9:=by simpa using hb6
    have hr1:ren1 o nm f b=(b,nm,f):=by unfold ren1;rw[if_pos h9]
    rw[hr1]
    refine zM ?_
    exact cInv ⟨(ov,ck,l),id,hov,LessR.of rfl zFS (by simp) .nil rfl rfl hok0⟩
  clear hov hok0
  obtain⟨ov,ck,l⟩:=c
  have hov:=hov2
  clear hov2
  dsimp only at hov
  have hok0:=hov.ok
  have hf1':=ren1_f o nm f b
  have hkb:keys (bO nb (ren1 o nm f b).1)=keys (bO nb b):=Qg0 nb _ _
  generalize hs1:ren1 o nm f b=s1 at hov hf1' hkb
  obtain⟨b1,nm1,f1⟩:=s1
  dsimp only at hov hf1' hkb
  refine zA ?_
  refine zS (zLD rfl rfl hov.i rfl) ?_
  refine zA ?_
  refine ACode.loopR hΓ (α:=Nat×Outer×Nat×List (Nat×Int×Int)) (fun c=>[(49,.one (int c.1)),(48,.one (int (a.map lAlt).length)),(7,.one (.fn (.func 167) [] [.ptr (.o kf) 0,.ptr (.o kn) 0])),(0,.one (.ptr (.o i) 0)),(1,.one (.ptr (.o kn) 0)),(2,.one (.ptr (.o kf) 0)),(3,.one (.ptr (.o kw) 0))])
   (fun c=>⟨0,[],c.2.1⟩) (fun m c=>c.1<=a.length/\NdS ou c.2.1 kn km kf kw i [int o,int n',bC nb b,.sl 1 (kC ks),.sl 2 (a.map lAlt)] K (rnAs nm1 f1 (a.take c.1)).2.1 c.2.2.1 c.2.2.2 (rnAs nm1 f1 (a.take c.1)).2.2 (bO nb b1) (aO ((rnAs nm1 f1 (a.take c.1)).1++a.drop c.1)) (objss ks)/\m=a.length - c.1)
   (a0:=(0,ov,ck,l)) (ρ:=id) ⟨by omega,by simpa[rnAs]using hov,rfl⟩ (LessR.of rfl zFS (by simp) .nil rfl rfl hok0) fun m c hc=>?_
  clear hov hok0
  obtain⟨j,ov,ck,l⟩:=c
  obtain⟨hjl,hov,rfl⟩:=hc
  dsimp only at hjl hov
  have hok0:=hov.ok
  refine zA ?_
  refine ACode.cond rfl (fun hb2=>?_) (fun hb2=>?_)
  ·have hlt:j < a.length:=by simpa using hb2
   obtain⟨x,hx⟩:=Q00 hlt
   have hxm:=List.mem_of_getElem? hx
   obtain⟨hxo,hxl⟩:=hax x hxm
   have hsn:=Qe5 x (a.take j) nm1 f1
   rw[←Q0n hx]at hsn
   have hfa:=Qhe (a.take j) nm1 f1
   have hdr:a.drop j=x::a.drop (j+1):=by
    obtain⟨q1,q2⟩:=List.getElem?_eq_some_iff.1 hx
    rw[List.drop_eq_getElem_cons q1,q2]
   have hcnt:nbA (a.take j)+x.binds.length<=nbA a:=by
    have h1:=Qlq (a.take (j+1)) (a.drop (j+1))
    rw[List.take_append_drop,Q0n hx,Qlq]at h1
    simp[nbA]at h1 ⊢;omega
   have hka:=Qhd (a.take j) nm1 f1
   have hxk:∀k∈keys (bO x.nb x.binds),k∈keys (aO a):=fun k hk=>by
    rw[←List.take_append_drop j a,hdr,Qao,Q0v,Qan,Q0v]
    simp[hk]
   have hxd:∀k∈keys (bO x.nb x.binds),k∉keys (aO (a.take j))/\k∉keys (aO (a.drop (j+1))):=fun k hk=>by
    have h1:=nda
    rw[←List.take_append_drop j a,hdr,Qao,Q0v,Qan,Q0v,List.nodup_append,List.nodup_append]at h1
    exact⟨fun h=>h1.2.2 k h k (List.mem_append.2 (.inl hk)) rfl,fun h=>h1.2.1.2.2 k hk k h rfl⟩
   rw[hdr]at hov
   generalize rnAs nm1 f1 (a.take j)=sj at hov hsn hfa hka
   obtain⟨aj,nmj,fj⟩:=sj
   dsimp only at hov hsn hfa hka
   rw[Qao,Qan]at hov
   obtain⟨hoa1,hoa2⟩:=Owns.app.1 hov.a
   obtain⟨hoa3,hoa4⟩:=Owns.app.1 hoa2
   have hxK:∀k∈keys (bO x.nb x.binds),k∈K:=fun k hk=>(hKm k).2 (.inr (.inr (.inl (hxk k hk))))
   refine zA ?_
   refine zS (zLD rfl rfl hov.i rfl) ?_
   refine zA ?_
   refine zS (zIA rfl rfl rfl (by omega) (Q04 (f:=lAlt) hx)) ?_
   refine zA ?_
   refine AOps.call1 hΓ rfl rfl rfl rfl rfl rfl rfl (by exact⟨Qa1 _ (fun _=>trivial) _ _,trivial,trivial,trivial⟩) hok0
    (Qib hΓ x.nb x.binds hxo hxl ov kn km kf nmj _ _ fj hov.R hoa3 (fun k hk=>⟨(hdis k (hxK k hk)).1,(hdis k (hxK k hk)).2.1,(hdis k (hxK k hk)).2.2.1⟩) (by omega) (by omega) hok0) fun r ow hq hids how=>?_
   obtain⟨rfl,ck',l',hR',hO',hok',hfr'⟩:=hq
   refine zM ?_
   refine cInv ⟨a.length - (j+1),(j+1,ow,ck',l'),id,by omega,⟨by omega,?_,rfl⟩,LessR.of rfl zFS (by simp) .nil rfl rfl hok'⟩
   dsimp only
   rw[hsn]
   dsimp only
   have hkq:∀q∈keys (aO a),q∉keys (bO x.nb x.binds)->ow q=ov q:=fun q hq hn=>by
    have hq':=hdis q ((hKm q).2 (.inr (.inr (.inl hq))))
    exact hfr' q hq'.2.1 hq'.2.2.1 hn
   refine hov.frame (S:=keys (bO x.nb x.binds)) hR' hok' hfr' (fun q hq=>⟨hxK q hq,fun e=>nia (e▸hxk q hq)⟩) hdis hKi hww (hov.b.frame fun q hq=>?_) ?_ (hov.k.frame fun q hq=>?_)
   ·rw[hkb]at hq
    have hq':=hdis q ((hKm q).2 (.inr (.inl hq)))
    exact hfr' q hq'.2.1 hq'.2.2.1 fun h=>(nbx q hq).1 (hxk q h)
   ·rw[List.append_assoc,Qao]
    refine Owns.app.2 ⟨hoa1.frame fun q hq=>?_,?_⟩
    ·rw[hka]at hq
     refine hkq q ?_ fun h=>(hxd q h).1 hq
     rw[←List.take_append_drop j a,Qao,Q0v]
     exact List.mem_append.2 (.inl hq)
    ·rw[List.cons_append,List.nil_append,Qan]
     refine Owns.app.2 ⟨hO',hoa4.frame fun q hq=>?_⟩
     refine hkq q ?_ fun h=>(hxd q h).2 hq
     rw[←List.take_append_drop (j+1) a,Qao,Q0v]
     exact List.mem_append.2 (.inr hq)
   ·have hq':=hdis q ((hKm q).2 (.inr (.inr (.inr hq))))
    exact hfr' q hq'.2.1 hq'.2.2.1 fun h=>nax q (hxk q h) hq
  have hlt:j=a.length:=by simp at hb2;omega
  subst hlt
  rw[List.take_length,List.drop_length,List.append_nil]at hov
  have hfa:=Qhe a nm1 f1
  have hka:=Qhd a nm1 f1
  generalize hs2:rnAs nm1 f1 a=s2 at hov hfa hka
  obtain⟨a2,nm2,f2⟩:=s2
  dsimp only at hov hfa hka
  refine zA ?_
  refine zS (zLD rfl rfl hov.i rfl) ?_
  refine zA ?_
  refine ACode.loopR hΓ (α:=Nat×Outer×Nat×List (Nat×Int×Int)) (fun c=>[(68,.one (int c.1)),(67,.one (int (kC ks).length)),(66,.one (.sl 1 (kC ks))),(3,.one (.ptr (.o kw) 0))])
   (fun c=>⟨0,[],c.2.1⟩) (fun m c=>c.1<=ks.length/\NdS ou c.2.1 kn km kf kw i [int o,int n',bC nb b,.sl 1 (kC ks),.sl 2 (a.map lAlt)] K (rnLs nm2 f2 (ks.take c.1)).2.1 c.2.2.1 c.2.2.2 (rnLs nm2 f2 (ks.take c.1)).2.2 (bO nb b1) (aO a2) (objss ((rnLs nm2 f2 (ks.take c.1)).1++ks.drop c.1))/\m=ks.length - c.1)
   (a0:=(0,ov,ck,l)) (ρ:=id) ⟨by omega,by simpa[rnLs]using hov,rfl⟩ (LessR.of rfl ?_ ?_ .nil rfl rfl hok0) fun m c hc=>?_
  ·refine FrSub.cons rfl (.ofEq rfl) (FrSub.cons rfl (.ofEq rfl) (FrSub.consP rfl (.ofEq rfl) (Q8f _ (fun _=>trivial) _) (FrSub.cons rfl (.ofEq rfl) .nil)))
  ·simp;exact Q8f (inL 0) (fun _=>trivial) _
  clear hov hok0
  obtain⟨j,ov,ck,l⟩:=c
  obtain⟨hjl,hov,rfl⟩:=hc
  dsimp only at hjl hov
  have hok0:=hov.ok
  refine zA ?_
  refine ACode.cond rfl (fun hb2=>?_) (fun hb2=>?_)
  ·have hlt:j < ks.length:=by simpa[kC]using hb2
   obtain⟨t,ht⟩:=Q00 hlt
   have htm:=List.mem_of_getElem? ht
   have hsn:=Qe4 t (ks.take j) nm2 f2
   rw[←Q0n ht]at hsn
   have hfk:=Qky (ks.take j) nm2 f2
   have hdr:ks.drop j=t::ks.drop (j+1):=by
    obtain⟨q1,q2⟩:=List.getElem?_eq_some_iff.1 ht
    rw[List.drop_eq_getElem_cons q1,q2]
   have hcnt:nbLs (ks.take j)+nbL t<=nbLs ks:=by
    have h1:=Qcr (ks.take (j+1)) (ks.drop (j+1))
    rw[List.take_append_drop,Q0n ht,Qcr]at h1
    simp[nbLs]at h1 ⊢;omega
   have hkk:=Qkx (ks.take j) nm2 f2
   have hspl:keys (objss ks)=keys (objss (ks.take j))++(keys (objs t)++keys (objss (ks.drop (j+1)))):=by
    conv=>lhs;rw[←List.take_append_drop j ks,hdr,Q3l,Q0v,show objss (t::ks.drop (j+1))=objs t++objss (ks.drop (j+1))from rfl,Q0v]
   have htk:∀k∈keys (objs t),k∈keys (objss ks):=fun k hk=>by rw[hspl];simp[hk]
   have htd:(keys (objs t)).Nodup/\∀k∈keys (objs t),k∉keys (objss (ks.take j))/\k∉keys (objss (ks.drop (j+1))):=by
    have h1:=ndk
    rw[hspl,List.nodup_append,List.nodup_append]at h1
    exact⟨h1.2.1.1,fun k hk=>⟨fun h=>h1.2.2 k h k (List.mem_append.2 (.inl hk)) rfl,fun h=>h1.2.1.2.2 k hk k h rfl⟩⟩
   rw[hdr]at hov
   generalize rnLs nm2 f2 (ks.take j)=sj at hov hsn hfk hkk
   obtain⟨kj,nmj,fj⟩:=sj
   dsimp only at hov hsn hfk hkk
   rw[Q3l,show objss (t::ks.drop (j+1))=objs t++objss (ks.drop (j+1))from rfl]at hov
   obtain⟨hoa1,hoa2⟩:=Owns.app.1 hov.k
   obtain⟨hoa3,hoa4⟩:=Owns.app.1 hoa2
   have htK:∀k∈keys (objs t),k∈K:=fun k hk=>(hKm k).2 (.inr (.inr (.inr (htk k hk))))
   refine zA ?_
   refine zS (zIA rfl rfl rfl (by omega) (Q04 (f:=fun t:LTr=>[AC.ptr (.o t.id) 0]) ht)) ?_
   refine zA ?_
   refine zS (zLD rfl rfl hov.w rfl) ?_
   refine zA ?_
   refine AOps.call1 hΓ rfl rfl rfl rfl rfl rfl rfl (by exact⟨trivial,trivial,trivial,trivial,trivial⟩) hok0
    (ih t htm ov kn km kf kw nmj _ _ fj hov.R hov.w hoa3 htd.1 (fun k hk => hdis k (htK k hk)) (by omega) (by omega) hok0) fun r ow hq hids how => ?_
   obtain⟨rfl,ck',l',hR',hO',hok',hfr'⟩:=hq
   refine zM ?_
   refine cInv ⟨ks.length - (j+1),(j+1,ow,ck',l'),id,by omega,⟨by omega,?_,rfl⟩,LessR.of rfl ?_ ?_ .nil rfl rfl hok'⟩
   ·dsimp only
    rw[hsn]
    dsimp only
    have hkq:∀q∈keys (objss ks),q∉keys (objs t)->ow q=ov q:=fun q hq hn=>by
     have hq':=hdis q ((hKm q).2 (.inr (.inr (.inr hq))))
     exact hfr' q hq'.2.1 hq'.2.2.1 hn
    refine hov.frame (S:=keys (objs t)) hR' hok' hfr' (fun q hq=>⟨htK q hq,fun e=>nik (e▸htk q hq)⟩) hdis hKi hww (hov.b.frame fun q hq=>?_) (hov.a.frame fun q hq=>?_) ?_
    ·rw[hkb]at hq
     have hq':=hdis q ((hKm q).2 (.inr (.inl hq)))
     exact hfr' q hq'.2.1 hq'.2.2.1 fun h=>(nbx q hq).2 (htk q h)
    ·rw[hka]at hq
     have hq':=hdis q ((hKm q).2 (.inr (.inr (.inl hq))))
     exact hfr' q hq'.2.1 hq'.2.2.1 fun h=>nax q hq (htk q h)
    ·rw[List.append_assoc,Q3l]
     refine Owns.app.2 ⟨hoa1.frame fun q hq=>?_,?_⟩
     ·rw[hkk]at hq
      exact hkq q (by rw[hspl];exact List.mem_append.2 (.inl hq)) fun h=>(htd.2 q h).1 hq
     ·rw[List.cons_append,List.nil_append,show objss ((rnL nmj fj t).1::ks.drop (j+1))=objs (rnL nmj fj t).1++objss (ks.drop (j+1))from rfl]
      refine Owns.app.2 ⟨hO',hoa4.frame fun q hq=>?_⟩
      exact hkq q (by rw[hspl];exact List.mem_append.2 (.inr (List.mem_append.2 (.inr hq)))) fun h=>(htd.2 q h).2 hq
   ·refine FrSub.cons rfl (.ofEq rfl) (FrSub.cons rfl (.ofEq rfl) (FrSub.consP rfl (.ofEq rfl) (Q8f _ (fun _=>trivial) _) (FrSub.cons rfl (.ofEq rfl) .nil)))
   ·simp;exact Q8f (inL 0) (fun _=>trivial) _
  have hlt:j=ks.length:=by simp[kC]at hb2;omega
  subst hlt
  rw[List.take_length,List.drop_length,List.append_nil]at hov
  refine zA ?_
  refine AFn.fin' rfl (WkF.refl _) (by simp) hok0 ⟨rfl,ck,l,?_,?_,hok0,fun q h1 h2 h3=>hov.fr q h1 h2 (by rw[hKe];exact h3)⟩
  ·have:=hov.R
   simp only[rnL,hs1,hs2]
   exact this
  ·have e1:(rnL nm f (.mk i o n nb b ks a)).1=.mk i o n' nb b1 (rnLs nm2 f2 ks).1 a2:=by simp only[rnL,hs1,hs2,hn']
   rw[e1]
   have hc1:bC nb b1=bC nb b:=by have:=ren1_c hnb nm f;rw[hs1]at this;exact this
   have hc2:a2.map lAlt=a.map lAlt:=by have:=rnAs_c (l:=a) (nm:=nm1) (f:=f1) fun x hx=>(hax x hx).1;rw[hs2]at this;exact this
   intro p hp
   simp only[objs,hc1,hc2,rnLs_c,List.cons_append,List.mem_cons]at hp
   rcases hp with rfl|hp
   ·exact hov.i
   ·exact Owns.app.2 ⟨Owns.app.2 ⟨hov.b,hov.a⟩,hov.k⟩ p hp
abbrev nm0:Nm:=fun _=>none
theorem Qcn{ou:Outer}{k:Nat}{os:List AObj}(h:OuOk ou)(ho:∀o∈os,o.ids isO):OuOk (ouAdd ou k os):=by
 intro m o hm
 rcases Nat.lt_or_ge m k with h1|h1
 ·rw[Q57 h1]at hm;exact h m o hm
 ·obtain⟨p,rfl⟩:∃p,m=k+p:=⟨m - k,by omega⟩
  rw[Q25]at hm
  exact ho o (List.mem_of_getElem? hm)
def ouCut (ou:Outer)(k:Nat):Outer:=fun m=>if m < k then ou m else none
theorem Q7m{ou:Outer}{k m:Nat}{o:AObj}(h:ouCut ou k m=some o):ou m=some o:=by
 unfold ouCut at h
 split at h
 ·exact h
 ·cases h
def RenameQ (ou:Outer)(t:LTr)(f:Int)(r:FV)(ou':Outer):Prop:=
 r=.one (int (rnL nm0 f t).2.2)/\Owns ou' (objs (rnL nm0 f t).1)/\OuOk ou'/\∀j,j∉keys (objs t)->ou' j=ou j
theorem Qn7(hΓ:∀g cs,(g,cs)∈Γ->idsL isO cs)(t:LTr)(hok:okL t)(ou:Outer)(ho:Owns ou (objs t))(hnd:(keys (objs t)).Nodup)(f:Int)(hf0:0<=f)(hf1:f+nbL t<=4611686018427387904)(hou0:OuOk ou):
  AFn Tryz.prog Γ 134 [.one (.ptr (.o t.id) 0),.one (int f)] ou (RenameQ ou t f):=by
 refine AFn.walk 13 tabOk Tryz.func134 rfl (by kernel_rfl) rfl rfl fun hou=>?_
 refine zA ?_
 refine zS (AStep.makeMap rfl) ?_
 refine zA ?_
 refine AOps.cedes [2,1,0,3] rfl (by decide) hou fun k hk=>⟨[(9,.one (fnR k (k+2) (k+3))),(10,.one (.ptr (.o t.id) 0)),(3,.one (.ptr (.o (k+2)) 0))],[],[.cells [.mp (.o (k+1))],.map 0 (encI eN []),.cells [int f],.cells [fnR k (k+2) (k+3)]],?_,.nil,?_,?_⟩
 ·exact .cons rfl rfl (.cons rfl rfl (.cons rfl rfl .nil))
 ·exact .cons rfl rfl (.cons rfl rfl (.cons rfl rfl (.cons rfl rfl .nil)))
 have hk':∀m,k<=m->ou m=none:=hk
 have hkl:∀j∈keys (objs t),j < k:=fun j hj=>by
  obtain⟨p,hp,rfl⟩:=List.mem_map.1 hj
  exact Qo5 hk' (ho p hp)
 obtain⟨o1',ho1'⟩:∃o1':Outer,o1'=ouAdd ou k [.cells [.mp (.o (k+1))],.map 0 (encI eN []),.cells [int f],.cells [fnR k (k+2) (k+3)]]:=⟨_,rfl⟩
 have g0:o1' k=some (.cells [.mp (.o (k+1))]):=by rw[ho1'];exact Q25 0
 have g1:o1' (k+1)=some (.map 0 (encI eN [])):=by rw[ho1'];exact Q25 1
 have g2:o1' (k+2)=some (.cells [int f]):=by rw[ho1'];exact Q25 2
 have g3:o1' (k+3)=some (.cells [fnR k (k+2) (k+3)]):=by rw[ho1'];exact Q25 3
 have g4:∀j,j < k->o1' j=ou j:=fun j hj=>by rw[ho1'];exact Q57 hj
 have g5:OuOk o1':=by
  rw[ho1']
  refine Qcn hou0 fun o ho=>?_
  simp only[List.mem_cons,List.not_mem_nil,or_false]at ho
  rcases ho with rfl|rfl|rfl|rfl
  ·simp
  ·exact Q2x _ _ _
  ·simp
  ·simp[fnR]
 have hcall:=Qb7 hΓ t hok o1' k (k+1) (k+2) (k+3) nm0 0 [] f ⟨g0,g1,IMOk.nil,g2⟩ g3 (ho.frame fun j hj=>g4 j (hkl j hj)) hnd (fun j hj=>by have:=hkl j hj;omega) hf0 hf1 g5
 show AOps _ _ _ _ _ ⟨4,[],ouAdd ou k [.cells [.mp (.o (k+1))],.map 0 (encI eN []),.cells [int f],.cells [fnR k (k+2) (k+3)]]⟩
 rw[←ho1']
 refine AOps.call1 hΓ rfl rfl rfl rfl rfl rfl rfl (by exact⟨trivial,trivial,trivial,trivial,trivial⟩) g5 hcall fun r ow hq hids how=>?_
 obtain⟨rfl,ck',l',hR',hO',hok',hfr'⟩:=hq
 refine zA ?_
 refine zS (zLD rfl rfl hR'.f rfl) ?_
 refine AOps.lessO ⟨4,[],ouCut ow k⟩ rfl (fun i o hi=>?_) ?_
 ·cases i with
  |l m=>cases hi
  |o m=>exact Q7m hi
 refine zA ?_
 refine AFn.fin' rfl (WkF.ofEq rfl) (by simp) (fun j o h=>hok' j o (Q7m h)) ⟨rfl,fun p hp=>?_,fun j o h=>hok' j o (Q7m h),fun j hj=>?_⟩
 ·have hpk:p.1∈keys (objs t):=by rw[←rnL_k t nm0 f];exact List.mem_map_of_mem hp
  show ouCut ow k p.1=some p.2
  unfold ouCut
  rw[if_pos (hkl _ hpk)]
  exact hO' p hp
 ·show ouCut ow k j=ou j
  unfold ouCut
  by_cases e:j < k
  ·rw[if_pos e,hfr' j (by omega) (by omega) hj,g4 j e]
  ·rw[if_neg e,hk' j (by omega)]
theorem Wk.arr0(i:Abs.Id)(s cap:Nat):Wk (.arr i s 0 0 cap) (.sl s []):=by
 intro w C v h
 simp only[R]at h ⊢
 obtain⟨_,rfl,hc⟩:=h
 exact⟨_,cap,rfl,by simp,.inl trivial⟩
structure NewO (ou ou':Outer)(L:List (Nat×AObj)):Prop where
 own:Owns ou' L
 new:∀k∈keys L,ou k=none
 old:∀m,m∉keys L->ou' m=ou m
 ok:OuOk ou'
 nd:(keys L).Nodup
theorem NewO.nil{ou:Outer}(h:OuOk ou):NewO ou ou []:=⟨fun p hp=>by simp at hp,fun k hk=>by simp[keys]at hk,fun _ _=>rfl,h,by simp[keys]⟩
theorem NewO.trans{ou ou1 ou2:Outer}{L M:List (Nat×AObj)}(h:NewO ou ou1 L)(k:NewO ou1 ou2 M):NewO ou ou2 (L++M):=by
 have hLM:∀j∈keys L,j∉keys M:=fun j hj hm=>by
  have h1:=k.new j hm
  obtain⟨p,hp,rfl⟩:=List.mem_map.1 hj
  rw[h.own p hp]at h1
  cases h1
 refine⟨Owns.app.2 ⟨h.own.frame fun j hj=>k.old j (hLM j hj),k.own⟩,fun j hj=>?_,fun m hm=>?_,k.ok,?_⟩
 ·rw[Q0v,List.mem_append]at hj
  by_cases e:j∈keys L
  ·exact h.new j e
  ·rw[←h.old j e]
   exact k.new j (hj.resolve_left e)
 ·rw[Q0v,List.mem_append,not_or]at hm
  rw[k.old m hm.2,h.old m hm.1]
 ·rw[Q0v,List.nodup_append]
  exact⟨h.nd,k.nd,fun a ha b hb e=>hLM a ha (e▸hb)⟩
def CloneQ (ou:Outer)(l:List Int)(r:FV)(ou':Outer):Prop:=∃nb,ownB nb l/\r=.one (bC nb l)/\NewO ou ou' (bO nb l)
theorem Qfg(l:List Int)(hl:l.length<=1048576)(ou:Outer):AFn Tryz.prog Γ 83 [.one (.sl 1 (l.map cI))] ou (CloneQ ou l):=by
 refine AFn.walk 8 tabOk Tryz.func83 rfl (by kernel_rfl) rfl rfl fun hou=>?_
 refine zA ?_
 refine AOps.nilTest rfl rfl rfl rfl Tryz.underlying29 rfl rfl fun b hb=>?_
 refine zA ?_
 refine ACode.cond rfl (fun hb2=>?_) (fun hb2=>?_)
 ·have h0:l=[]:=by simpa using hb hb2
  subst h0
  refine zA ?_
  exact AFn.fin' rfl (.one (.nilS 1)) (by simp) hou ⟨none,fun _=>rfl,rfl,.nil hou⟩
 ·clear hb
  refine zA ?_
  refine zS (AStep.buildOwn0 (s:=1) tabOk rfl rfl rfl rfl rfl) ?_
  refine zA ?_
  by_cases h0:l=[]
  ·subst h0
   refine zS (AStep.appNone tabOk rfl rfl rfl rfl rfl rfl) ?_
   refine zA ?_
   exact AFn.fin' rfl (.one (Wk.arr0 _ _ _)) (by simp) hou ⟨none,fun _=>rfl,rfl,.nil hou⟩
  ·refine AOps.appOwn tabOk rfl rfl rfl rfl rfl rfl rfl rfl rfl (.own 1 0 [] (.l 0) rfl (by simp) (by simp)) (.sl 1 (l.map cI)) (by simpa using h0) rfl (by simp;show _ * 8<=_;omega) (by simp;omega) fun cap hc=>?_
   simp only[List.nil_append]at hc ⊢
   refine AOps.cedes [1] rfl (by decide) hou fun k hk=>⟨[(7,.one (.arr (.o k) 1 0 (l.map cI).length cap))],[],[.cells (vec 1 (l.map cI) cap)],.cons rfl rfl .nil,.nil,.cons rfl ?_ .nil,?_⟩
   ·exact AObj.sub_f (fun i hi=>by cases i with|l q=>exact hi.elim|o q=>rfl) _ (show idsL isO (vec 1 (l.map cI) cap)from Q8v _ _ _)
   have hk':∀m,k<=m->ou m=none:=hk
   have hok:OuOk (ouAdd ou k [.cells (vec 1 (l.map cI) cap)]):=Qcn hou fun o ho=>by simp at ho;subst ho;exact Q8v _ _ _
   refine zA ?_
   refine AFn.fin' rfl (WkF.ofEq rfl) (by simp) hok ⟨some (k,cap),(fun h=>by cases h),rfl,fun p hp=>?_,fun j hj=>?_,fun m hm=>?_,hok,by simp[bO,keys]⟩
   ·simp[bO]at hp;subst hp
    exact Q25 0
   ·simp[bO,keys]at hj;subst hj;exact hk' _ (Nat.le_refl _)
   ·simp[bO,keys]at hm
    show ouAdd ou k [.cells (vec 1 (l.map cI) cap)] m=ou m
    rcases Nat.lt_or_ge m k with h1|h1
    ·exact Q57 h1
    ·obtain⟨p,rfl⟩:∃p,m=k+p:=⟨m - k,by omega⟩
     rw[Q25,hk' _ h1]
     cases p with
     |zero=>simp at hm
     |succ p=>simp
end Go.Proofs.YtpaonemmbhbgoaaGreatDoor
namespace Go.CoreX
theorem Qik:∀{e f:List Ex},e.map (·.kids)=f.map (·.kids)->∀i,cnt e i=cnt f i
 |[],[],_,_=>rfl
 |[],_::_,h,_=>by simp at h
 |_::_,[],h,_=>by simp at h
 |x::e,y::f,h,i=>by
  simp only[List.map_cons,List.cons.injEq]at h
  simp only[cnt,h.1,Qik h.2 i]
def ixE (e:List Ex):List Ex:=e.mapIdx fun i x=>{ x with n:=(i:Nat) }
theorem Q9y{e:List Ex}{i:Nat}:(ixE e)[i]?=(e[i]?).map fun x=>{ x with n:=(i:Nat) }:=by simp[ixE]
theorem Qok(e:List Ex):(ixE e).map (·.kids)=e.map (·.kids):=by
 apply List.ext_getElem?
 intro i
 simp only[List.getElem?_map,Q9y]
 cases e[i]? <;> rfl
theorem Qcw(e:List Ex):(ixE e).length=e.length:=by simp[ixE]
theorem Qoj{e:List Ex}(h:IsTree e):IsTree (ixE e):=by
 refine⟨fun e0=>h.ne (by have:=Qcw e;rw[e0]at this;exact List.length_eq_zero_iff.1 (by simpa using this.symm)),fun j x hx=>?_,fun i hi=>?_⟩
 ·rw[Q9y]at hx
  cases he:e[j]? with
  |none=>rw[he]at hx;cases hx
  |some y=>
   rw[he]at hx
   simp at hx;subst hx
   exact h.k j y he
 ·rw[Qik (Qok e),Qcw]
  exact h.c i (by rw[Qcw]at hi;exact hi)
theorem labs_n(e:List Ex):(labs e).map (·.n)=e.map (·.n):=by simp[labs,labE]
theorem ixE_n(e:List Ex):(ixE e).map (·.n)=(List.range e.length).map fun i:Nat=>(i:Int):=by
 apply List.ext_getElem?
 intro i
 simp only[List.getElem?_map,Q9y]
 by_cases h:i < e.length
 ·simp[h]
 ·simp[h]
end Go.CoreX
namespace Go.Proofs.YtpaonemmbhbgoaaGreatDoor
open Go Go.Abs Go.CoreX
def ownO:LTr->List (Nat×AObj)
 |.mk i o n nb b k a=>(bO nb b++aO a)++[(i,.cells [int o,int n,bC nb b,.sl 1 (kC k),.sl 2 (a.map lAlt)])]
theorem Q8s:∀(t:LTr)(p:Nat×AObj),p∈objs t↔p∈ownO t∨p∈objss t.kids
 |.mk i o n nb b k a,p=>by
  simp only[objs,ownO,LTr.kids,List.cons_append,List.mem_cons,List.mem_append,List.not_mem_nil,or_false]
  constructor
  ·rintro (h|(h|h)|h) <;> simp[h]
  ·rintro (((h|h)|h)|h) <;> simp[h]
theorem Qbf(k:Nat):∀t:LTr,(keys (objs t)).count k=(keys (ownO t)).count k+(keys (objss t.kids)).count k
 |.mk i o n nb b ks a=>by
  simp only[objs,ownO,LTr.kids,keys,List.map_cons,List.map_append,List.cons_append,List.count_cons,List.count_append,List.map_nil,List.count_nil]
  omega
structure LinkL (e:List Ex)(lts:List LTr)(B:Nb->List Int->Prop:=ownB):Prop where
 len:lts.length=e.length
 at_:∀(i:Nat) (x:Ex),e[i]?=some x->∃id nb a,lts[i]?=some (.mk id x.op x.n nb x.binds (x.kids.map fun q=>lts.getD q.toNat default) a)/\a.map LAlt.er=x.alts/\B nb x.binds/\∀y∈a,B y.nb y.binds
theorem LinkL.nil{B:Nb->List Int->Prop}:LinkL [] [] B:=⟨rfl,fun i x h=>by simp at h⟩
theorem LinkL.snoc{B:Nb->List Int->Prop}{e:List Ex}{lts:List LTr}(h:LinkL e lts B)(hk:Q0t e){x:Ex}(hx:∀q∈x.kids,0<=q/\q < (e.length:Int)){id:Nat}{nb:Nb}{a:List LAlt}(ha:a.map LAlt.er=x.alts)(hb:B nb x.binds)(hab:∀y∈a,B y.nb y.binds):
  LinkL (e++[x]) (lts++[.mk id x.op x.n nb x.binds (x.kids.map fun q=>lts.getD q.toNat default) a]) B:=by
 have hgd:∀(q:Int),0<=q->q < (e.length:Int)->∀t,(lts++[t]).getD q.toNat default=lts.getD q.toNat default:=fun q h0 h1 t=>Q70 (by rw[h.len];omega)
 refine⟨by simp[h.len],fun i y hy=>?_⟩
 by_cases hi:i < e.length
 ·rw[List.getElem?_append_left hi]at hy
  obtain⟨id',nb',a',h1,h2,h3,h4⟩:=h.at_ i y hy
  refine⟨id',nb',a',?_,h2,h3,h4⟩
  rw[List.getElem?_append_left (by rw[h.len];exact hi),h1]
  congr 2
  refine List.map_congr_left fun q hq=>?_
  have:=hk i y hy q hq
  exact (hgd q this.1 (by omega) _).symm
 ·have hie:i=e.length:=by
   have:=(List.getElem?_eq_some_iff.1 hy).1
   simp at this;omega
  subst hie
  simp at hy
  subst hy
  refine⟨id,nb,a,?_,ha,hb,hab⟩
  rw[←h.len,List.getElem?_append_right (by simp)]
  simp only[Nat.sub_self,List.getElem?_cons_zero]
  congr 2
  exact List.map_congr_left fun q hq=>(hgd q (hx q hq).1 (hx q hq).2 _).symm
section
variable {e:List Ex}{lts:List LTr}{B:Nb->List Int->Prop}
theorem LinkL.getD(h:LinkL e lts B){i:Nat}{t:LTr}(ht:lts[i]?=some t):lts.getD i default=t:=by rw[List.getD_eq_getElem?_getD,ht];rfl
theorem LinkL.er(h:LinkL e lts B)(hk:Q0t e):∀(n i:Nat)(t:LTr),i < n->lts[i]?=some t->erT t=Q0b e i
 |0,i,t,hi,_=>by omega
 |n+1,i,t,hi,ht=>by
  have hil:i < e.length:=by rw[←h.len];exact (List.getElem?_eq_some_iff.1 ht).1
  obtain⟨x,hx⟩:=Q00 hil
  obtain⟨id,nb,a,h1,h2,_⟩:=h.at_ i x hx
  rw[ht]at h1
  cases h1
  rw[Q2a hk hx]
  simp only[erT,h2,Q0g,List.map_map]
  congr 1
  refine List.map_congr_left fun q hq=>?_
  have hq':=hk i x hx q hq
  obtain⟨t',ht'⟩:=Q00 (l:=lts) (i:=q.toNat) (by rw[h.len];omega)
  simp only[Function.comp,h.getD ht']
  exact h.er hk n q.toNat t' (by omega) ht'
theorem LinkL.own(h:LinkL e lts B)(hk:Q0t e):∀(n i:Nat)(t:LTr),i < n->lts[i]?=some t->∀p∈objs t,p∈lts.flatMap ownO
 |0,i,t,hi,_=>by omega
 |n+1,i,t,hi,ht=>fun p hp=>by
  have hil:i < e.length:=by rw[←h.len];exact (List.getElem?_eq_some_iff.1 ht).1
  obtain⟨x,hx⟩:=Q00 hil
  obtain⟨id,nb,a,h1,_⟩:=h.at_ i x hx
  rw[ht]at h1
  rcases (Q8s t p).1 hp with hp|hp
  ·exact List.mem_flatMap.2 ⟨t,List.mem_of_getElem? ht,hp⟩
  ·cases h1
   simp only[LTr.kids,Q3s]at hp
   obtain⟨u,hu,hpu⟩:=List.mem_flatMap.1 hp
   obtain⟨q,hq,rfl⟩:=List.mem_map.1 hu
   have hq':=hk i x hx q hq
   obtain⟨t',ht'⟩:=Q00 (l:=lts) (i:=q.toNat) (by rw[h.len];omega)
   rw[h.getD ht']at hpu
   exact h.own hk n q.toNat t' (by omega) ht' p hpu
def ownC (lts:List LTr)(k:Nat)(l:Lab):Int:=((keys (ownO (lts.getD l.n.toNat default))).count k:Nat)
theorem Q9o(k:Nat):∀l:List LTr,(((keys (objss l)).count k:Nat):Int)=(l.map fun t=>(((keys (objs t)).count k:Nat):Int)).sum
 |[]=>by simp[objss,keys]
 |t::l=>by
  have:=Q9o k l
  simp only[keys]at this
  simp only[objss,keys,List.map_append,List.count_append,List.map_cons,List.sum_cons,←this]
  push_cast;rfl
theorem LinkL.count(h:LinkL e lts B)(hk:Q0t e)(k:Nat):∀(n i:Nat)(t:LTr),i < n->lts[i]?=some t->sumT (ownC lts k) (Q0b (ixE e) i)=((keys (objs t)).count k:Nat)
 |0,i,t,hi,_=>by omega
 |n+1,i,t,hi,ht=>by
  have hil:i < e.length:=by rw[←h.len];exact (List.getElem?_eq_some_iff.1 ht).1
  obtain⟨x,hx⟩:=Q00 hil
  obtain⟨id,nb,a,h1,_⟩:=h.at_ i x hx
  rw[ht]at h1
  have hki:Q0t (ixE e):=fun j y hy=>by
   rw[Q9y]at hy
   cases he:e[j]? with
   |none=>rw[he]at hy;cases hy
   |some z=>
    rw[he]at hy
    simp at hy;subst hy
    exact hk j z he
  have hxi:(ixE e)[i]?=some { x with n:=(i:Nat) }:=by rw[Q9y,hx];rfl
  rw[Q2a hki hxi]
  simp only[sumT,Q8m,List.map_map]
  rw[Qbf]
  have e1:ownC lts k ⟨x.op,(i:Nat),x.binds,x.kids.map (Tr.op∘fun k=>Q0b (ixE e) k.toNat),x.alts⟩=((keys (ownO t)).count k:Nat):=by
   unfold ownC
   simp only[Int.toNat_natCast,h.getD ht]
  have e2:(x.kids.map (sumT (ownC lts k)∘fun k=>Q0b (ixE e) k.toNat)).sum=((keys (objss t.kids)).count k:Nat):=by
   rw[Q9o]
   cases h1
   simp only[LTr.kids,List.map_map]
   congr 1
   refine List.map_congr_left fun q hq=>?_
   have hq':=hk i x hx q hq
   obtain⟨t',ht'⟩:=Q00 (l:=lts) (i:=q.toNat) (by rw[h.len];omega)
   simp only[Function.comp,h.getD ht']
   exact h.count hk k n q.toNat t' (by omega) ht'
  rw[e1,e2]
  push_cast;rfl
theorem Qbu(k:Nat):∀lts:List LTr,(((keys (lts.flatMap ownO)).count k:Nat):Int)=(lts.map fun t=>(((keys (ownO t)).count k:Nat):Int)).sum
 |[]=>by simp[keys]
 |t::l=>by
  have:=Qbu k l
  simp only[keys]at this
  simp only[List.flatMap_cons,keys,List.map_append,List.count_append,List.map_cons,List.sum_cons,←this]
  push_cast;rfl
theorem LinkL.nodup(h:LinkL e lts B)(ht:IsTree e)(hn:(keys (lts.flatMap ownO)).Nodup){t:LTr}(hr:lts[e.length - 1]?=some t):(keys (objs t)).Nodup:=by
 rw[List.nodup_iff_count]
 intro k
 have h1:=h.count ht.k k _ _ t (Nat.lt_succ_self _) hr
 have h2:=Q4d (ownC lts k) (Qoj ht)
 have h3:grow (ixE e)=Q0b (ixE e) (e.length - 1):=by unfold grow Q0b;rw[Qcw]
 rw[h3,h1]at h2
 have h4:((labs (ixE e)).map (ownC lts k))=lts.map fun t=>(((keys (ownO t)).count k:Nat):Int):=by
  have e1:(labs (ixE e)).map (ownC lts k)=((labs (ixE e)).map (·.n)).map fun n:Int=>(((keys (ownO (lts.getD n.toNat default))).count k:Nat):Int):=by
   rw[List.map_map];rfl
  rw[e1,labs_n,ixE_n,List.map_map]
  apply List.ext_getElem?
  intro i
  by_cases hi:i < e.length
  ·obtain⟨t',ht'⟩:=Q00 (l:=lts) (i:=i) (by rw[h.len];exact hi)
   simp only[List.getElem?_map,List.getElem?_range hi,Option.map_some,Function.comp,Int.toNat_natCast,h.getD ht',ht']
  ·rw[List.getElem?_eq_none (by simp;omega),List.getElem?_eq_none (by simp[h.len];omega)]
 rw[h4,←Qbu]at h2
 have h5:=List.nodup_iff_count.1 hn k
 omega
theorem LinkL.ok(h:LinkL e lts)(hk:Q0t e)(hs:∀x∈e,x.binds.length<=1048576/\x.kids.length<=1048576/\x.alts.length<=1048576/\∀a∈x.alts,a.binds.length<=1048576):∀(n i:Nat)(t:LTr),i < n->lts[i]?=some t->okL t
 |0,i,t,hi,_=>by omega
 |n+1,i,t,hi,ht=>by
  have hil:i < e.length:=by rw[←h.len];exact (List.getElem?_eq_some_iff.1 ht).1
  obtain⟨x,hx⟩:=Q00 hil
  obtain⟨id,nb,a,h1,h2,h3,h4⟩:=h.at_ i x hx
  obtain⟨s1,s2,s3,s4⟩:=hs x (List.mem_of_getElem? hx)
  rw[ht]at h1
  cases h1
  refine⟨fun _=>h3,s1,by simpa using s2,by have:=congrArg List.length h2;simp at this;omega,fun y hy=>⟨h4 y hy,?_⟩,Qco.2 fun u hu=>?_⟩
  ·exact s4 y.er (by rw[←h2];exact List.mem_map_of_mem hy)
  ·obtain⟨q,hq,rfl⟩:=List.mem_map.1 hu
   have hq':=hk i x hx q hq
   obtain⟨t',ht'⟩:=Q00 (l:=lts) (i:=q.toNat) (by rw[h.len];omega)
   rw[h.getD ht']
   exact h.ok hk hs n q.toNat t' (by omega) ht'
end
variable {Γ:List (Nat×List AC)}
def Q1a (ts:List LTr)(n:Nat):List AC:=ts.map (fun t=>.ptr (.o t.id) 0)++List.replicate (n - ts.length) (.lit (.pointer none))
theorem Qje(n:Nat):Q1a [] n=List.replicate n (.lit (.pointer none)):=by simp[Q1a]
theorem Qjf{ts:List LTr}{n:Nat}(h:ts.length<=n):(Q1a ts n).length=n:=by simp[Q1a];omega
theorem Q7p{ts:List LTr}{n k:Nat}{t:LTr}(h:ts[k]?=some t):(Q1a ts n)[k]?=some (.ptr (.o t.id) 0):=by
 have hk:=(List.getElem?_eq_some_iff.1 h).1
 unfold Q1a
 rw[List.getElem?_append_left (by simpa using hk)]
 simp[h]
theorem Qjd{ts:List LTr}{n:Nat}(h:ts.length < n)(t:LTr):(Q1a ts n).set ts.length (.ptr (.o t.id) 0)=Q1a (ts++[t]) n:=by
 unfold Q1a
 rw[List.set_append_right _ _ (by simp)]
 simp only[List.length_map,Nat.sub_self,List.map_append,List.map_cons,List.map_nil,List.append_assoc,List.length_append,List.length_singleton]
 congr 1
 rw[show n - ts.length=(n - (ts.length+1))+1 by omega,List.replicate_succ]
 rfl
theorem Qbp(p:Abs.Id->Prop)(hp:∀k,p (.o k))(ts:List LTr)(n:Nat):idsL p (Q1a ts n):=by
 refine Q8w ?_ (Qmc p _ _)
 induction ts with
 |nil=>trivial
 |cons t ts ih=>exact⟨hp _,ih⟩
@[simp] theorem ids_nodesL_l (k:Nat) (ts:List LTr) (n:Nat):idsL (inL k) (Q1a ts n):=Qbp _ (fun _=>trivial) ts n
@[simp] theorem Qep (ts:List LTr) (n:Nat):idsL isO (Q1a ts n):=Qbp _ (fun _=>trivial) ts n
theorem Qcv(l:List LTr)(t:LTr):kC (l++[t])=kC l++[[.ptr (.o t.id) 0]]:=by simp[kC]
def kidsL (ts:List LTr)(ks:List Int):List LTr:=ks.map fun k=>ts.getD k.toNat default
theorem Qbk{ts:List LTr}{ks:List Int}{i:Nat}{k:Int}(h:ks[i]?=some k):kidsL ts (ks.take (i+1))=kidsL ts (ks.take i)++[ts.getD k.toNat default]:=by
 simp[kidsL,List.take_add_one,h]
@[simp] theorem ids_kC_l (k:Nat) (ts:List LTr):idsS (inL k) (kC ts):=Q8f _ (fun _=>trivial) ts
@[simp] theorem Qd0 (ts:List LTr):idsS isO (kC ts):=Q8f _ (fun _=>trivial) ts
@[simp] theorem ids_lAlts_l (k:Nat) (l:List LAlt):idsS (inL k) (l.map lAlt):=Q5b _ (fun _=>trivial) l
@[simp] theorem Qg3 (l:List LAlt):idsS isO (l.map lAlt):=Q5b _ (fun _=>trivial) l
@[simp] theorem ids_bC_l (k:Nat) (nb:Nb) (l:List Int):(bC nb l).ids (inL k):=Qa1 _ (fun _=>trivial) nb l
@[simp] theorem ids_bC_o (nb:Nb) (l:List Int):(bC nb l).ids isO:=Qa1 _ (fun _=>trivial) nb l
@[simp] theorem Qe7 (ρ:Nat->Nat) (l:List LTr):renS ρ (kC l)=kC l:=Q23 ρ _ (Qd0 l)
@[simp] theorem Qe6 (ρ:Nat->Nat) (l:List LAlt):renS ρ (l.map lAlt)=l.map lAlt:=Q23 ρ _ (Qg3 l)
@[simp] theorem ren_bC (ρ:Nat->Nat) (nb:Nb) (l:List Int):(bC nb l).ren ρ=bC nb l:=by cases nb <;> simp[bC,AC.ren,Abs.Id.ren]
theorem NewO.add{ou:Outer}{k:Nat}{o:AObj}(hk:∀m,k<=m->ou m=none)(hou:OuOk ou)(ho:o.ids isO):NewO ou (ouAdd ou k [o]) [(k,o)]:=by
 refine⟨fun p hp=>?_,fun j hj=>?_,fun m hm=>?_,Qcn hou fun q hq=>by simp at hq;subst hq;exact ho,by simp[keys]⟩
 ·simp at hp;subst hp
  exact Q25 0
 ·simp[keys]at hj;subst hj;exact hk _ (Nat.le_refl _)
 ·simp[keys]at hm
  rcases Nat.lt_or_ge m k with h1|h1
  ·exact Q57 h1
  ·obtain⟨p,rfl⟩:∃p,m=k+p:=⟨m - k,by omega⟩
   rw[Q25,hk _ h1]
   cases p with
   |zero=>simp at hm
   |succ p=>simp
def GrowQ (e:List Ex)(ou:Outer)(r:FV)(ou':Outer):Prop:=∃t:LTr,r=.one (.ptr (.o t.id) 0)/\erT t=grow e/\okL t/\Owns ou' (objs t)/\(keys (objs t)).Nodup/\(∀k∈keys (objs t),ou k=none)/\OuOk ou'/\∀j o,ou j=some o->ou' j=some o
set_option maxHeartbeats 1000000 in
theorem Qiy(hΓ:∀g cs,(g,cs)∈Γ->idsL isO cs)(e:List Ex)(he:okE e)(hin:Q0t e)(hT:IsTree e)(ou:Outer):AFn Tryz.prog Γ 54 [.one (.sl 5 (e.map cEx))] ou (GrowQ e ou):=by
 have hel:=he.l
 refine AFn.walk 85 tabOk Tryz.func54 rfl (by kernel_rfl) rfl rfl fun hou=>?_
 refine zA ?_
 have hb:ti81.bytes * (e.map cEx).length<=281474976710656:=by simp;show 8 * _<=_;omega
 have hb2:(e.map cEx).length<=281474976710656:=by simp;omega
 refine zS (AStep.makeArr tabOk rfl rfl rfl rfl rfl rfl rfl rfl hb hb2) ?_
 refine zA ?_
 refine ACode.loopR hΓ (α:=Nat×List LTr×Outer) (fun c=>[(16,.one (int c.1)),(15,.one (int (e.map cEx).length)),(14,.one (.sl 5 (e.map cEx))),(3,.one (.arr (.l 0) 1 0 (e.map cEx).length (e.map cEx).length)),(0,.one (.sl 5 (e.map cEx)))])
  (fun c=>⟨1,[(0,.cells (Q1a c.2.1 (e.map cEx).length))],c.2.2⟩) (fun m c=>c.1<=e.length/\(LinkL (e.take c.1) c.2.1/\NewO ou c.2.2 (c.2.1.flatMap ownO))/\m=e.length - c.1) (a0:=(0,[],ou)) (ρ:=id) ⟨by omega,⟨LinkL.nil,.nil hou⟩,rfl⟩
  (LessR.of rfl zFS (by simp) (LoSub.cons rfl (by rw[AObj.ren_pure _ _ (by simp)];show AObj.cells (List.replicate _ _)=AObj.cells (Q1a [] _);rw[Qje]) rfl (by simp) .nil) rfl rfl hou) fun m c hc=>?_
 obtain⟨j,lts,ov⟩:=c
 obtain⟨hjl,⟨hL,hN⟩,rfl⟩:=hc
 dsimp only at hjl hL hN
 have hov:=hN.ok
 refine zA ?_
 refine ACode.cond rfl (fun hb2=>?_) (fun hb2=>?_)
 ·have hlt:j < e.length:=by simpa using hb2
  obtain⟨x,hx⟩:=Q00 hlt
  have hxo:=he.x x (List.mem_of_getElem? hx)
  have hxk:=hxo.k
  have hxa:=hxo.a
  have hxin:=hin j x hx
  have hgl:lts.length=j:=by rw[hL.len];simp;omega
  refine zA ?_
  refine zS (zIA rfl rfl rfl (by omega) (Q04 hx)) ?_
  refine zA ?_
  refine ACode.drawC tabOk 9 [6,7,8] [] (fun vs σ=>match vs with
    |[]=>σ=⟨2,[(1,.cells (cEx x)),(1,.cells (ti57.zero.map .lit)),(0,.cells (Q1a lts (e.map cEx).length))],ov⟩
    |[a]=>∃nb ow,ownB nb x.binds/\NewO ov ow (bO nb x.binds)/\a=.one (bC nb x.binds)/\σ=⟨2,[(1,.cells (cEx x)),(1,.cells (ti57.zero.map .lit)),(0,.cells (Q1a lts (e.map cEx).length))],ow⟩
    |[a,b]=>∃nb ow,ownB nb x.binds/\NewO ov ow (bO nb x.binds)/\a=.one (bC nb x.binds)/\b=.agg [int x.op,int x.n,bC nb x.binds,.lit (.slice none 0 0),.lit (.slice none 0 0)]/\σ=⟨2,[(1,.cells (cEx x)),(1,.cells (ti57.zero.map .lit)),(0,.cells (Q1a lts (e.map cEx).length))],ow⟩
    |[a,b,c]=>∃nb ow,ownB nb x.binds/\NewO ov ow (bO nb x.binds)/\a=.one (bC nb x.binds)/\b=.agg [int x.op,int x.n,bC nb x.binds,.lit (.slice none 0 0),.lit (.slice none 0 0)]/\c=.one (.ptr (.l 2) 0)/\σ=⟨3,[(2,.cells [int x.op,int x.n,bC nb x.binds,.lit (.slice none 0 0),.lit (.slice none 0 0)]),(1,.cells (cEx x)),(1,.cells (ti57.zero.map .lit)),(0,.cells (Q1a lts (e.map cEx).length))],ow⟩
    |_=>False) follows (by kernel_rfl) rfl rfl (by decide) (by kernel_rfl) (by kernel_rfl) rfl rfl ?_ (fun _ _ _=>.nil) (by decide) ?_ ?_
  ·rintro vs σ hG
   match vs,hG with
   |[],hG=>subst hG;rfl
   |[a],hG=>obtain⟨nb,ow,_,_,_,rfl⟩:=hG;rfl
   |[a,b],hG=>obtain⟨nb,ow,_,_,_,_,rfl⟩:=hG;rfl
   |[a,b,c],hG=>obtain⟨nb,ow,_,_,_,_,_,rfl⟩:=hG;rfl
  ·rintro vs σ hG i o hi ho
   match vs,hG with
   |[],hG=>
    subst hG
    cases hi
    cases ho
    refine⟨rfl,rfl,.inr ⟨rfl,Q0w.call hΓ rfl rfl rfl rfl (by simp) hov (Qfg x.binds hxo.b ov) fun r ow hq _ _=>?_⟩⟩
    obtain⟨nb,h1,rfl,h2⟩:=hq
    exact⟨nb,ow,h1,h2,rfl,rfl⟩
   |[a],hG=>
    obtain⟨nb,ow,h1,h2,rfl,rfl⟩:=hG
    cases hi
    cases ho
    exact⟨rfl,rfl,.inl ⟨_,_,HStep.auto tabOk rfl,nb,ow,h1,h2,rfl,rfl,rfl⟩⟩
   |[a,b],hG=>
    obtain⟨nb,ow,h1,h2,rfl,rfl,rfl⟩:=hG
    cases hi
    cases ho
    exact⟨rfl,rfl,.inl ⟨_,_,HStep.auto tabOk rfl,nb,ow,h1,h2,rfl,rfl,rfl,rfl⟩⟩
   |[a,b,c],hG=>cases hi
  rintro vs σ hlen hG
  match vs,hlen,hG with
  |[a,b,c],_,hG=>
  obtain⟨nb,ow,hnb,hNb,rfl,rfl,rfl,rfl⟩:=hG
  have how:=hNb.ok
  refine zA ?_
  refine ACode.grow 2 3 81 1 rfl rfl ?_
  refine ACode.loopR hΓ (α:=Nat) (fun i=>[(33,.one (int i)),(32,.one (int (x.kids.map cI).length)),(31,.one (.sl 1 (x.kids.map cI))),(6,.one (.ptr (.l 2) 0)),(5,.one (.ptr (.l 1) 0)),(4,.one (int j)),(16,.one (int j)),(15,.one (int (e.map cEx).length)),(14,.one (.sl 5 (e.map cEx))),(3,.one (.arr (.l 0) 1 0 (e.map cEx).length (e.map cEx).length)),(0,.one (.sl 5 (e.map cEx)))])
   (fun i=>⟨4,[(3,.tok 81 1 i),(2,.cells [int x.op,int x.n,bC nb x.binds,.gs 1 (kC (kidsL lts (x.kids.take i))) (.l 3),.lit (.slice none 0 0)]),(1,.cells (cEx x)),(0,.cells (Q1a lts (e.map cEx).length))],ow⟩)
   (fun m i=>i<=x.kids.length/\m=x.kids.length - i) (a0:=0) (ρ:=id) ⟨by omega,rfl⟩ (LessR.of rfl zFS (by simp) ?_ rfl rfl how) fun m i hi=>?_
  ·repeat' first|exact LoSub.nil|refine zlc ?_|refine zld ?_ ?_|rfl
   all_goals (simp[AObj.ren,renL,AC.ren,kidsL];exact⟨rfl,rfl⟩)
  obtain⟨hil,rfl⟩:=hi
  refine zA ?_
  refine ACode.cond rfl (fun hb3=>?_) (fun hb3=>?_)
  ·have hlt2:i < x.kids.length:=by simpa using hb3
   obtain⟨k,hk⟩:=Q00 hlt2
   have hkb:=hxin k (List.mem_of_getElem? hk)
   obtain⟨k',rfl⟩:∃k':Nat,k=k':=⟨k.toNat,by omega⟩
   obtain⟨tk,htk⟩:=Q00 (l:=lts) (i:=k') (by omega)
   have htd:(lts).getD (k':Int).toNat default=tk:=by rw[Int.toNat_natCast,List.getD_eq_getElem?_getD,htk];rfl
   have hks:=Qbk (ts:=lts) hk
   rw[htd]at hks
   have hkl:(kC (kidsL lts (x.kids.take i))).length=i:=by simp[kC,kidsL];omega
   refine zA ?_
   refine zS (zIA rfl rfl rfl (by omega) (Q04 hk)) ?_
   refine zA ?_
   refine ACode.drawXH (va:=.one (.gs 1 (kC (kidsL lts (x.kids.take i))++[[AC.ptr (.o tk.id) 0]]) (.l 4))) (σ1:=((St.mk 4 [(3,.tok 81 1 i),(2,.cells [int x.op,int x.n,bC nb x.binds,.gs 1 (kC (kidsL lts (x.kids.take i))) (.l 3),.lit (.slice none 0 0)]),(1,.cells (cEx x)),(0,.cells (Q1a lts (e.map cEx).length))] ow).set (.l 3) .dead).push (.tok 81 1 (kC (kidsL lts (x.kids.take i))++[[AC.ptr (.o tk.id) 0]]).length))
    tabOk 11 10 [(7,.one (.ptr (.l 0) k')),(8,.one (.ptr (.o tk.id) 0))] follows (by kernel_rfl) rfl rfl rfl rfl rfl rfl rfl ?_ ?_ ?_ ?_
   ·refine HStep.plain rfl (AStep.append (s:=1) (es:=kC (kidsL lts (x.kids.take i))) (news:=[[AC.ptr (.o tk.id) 0]]) (ti:=ti103) (σ:=⟨4,[(3,.tok 81 1 i),(2,.cells [int x.op,int x.n,bC nb x.binds,.gs 1 (kC (kidsL lts (x.kids.take i))) (.l 3),.lit (.slice none 0 0)]),(1,.cells (cEx x)),(0,.cells (Q1a lts (e.map cEx).length))],ow⟩) tabOk rfl rfl rfl rfl rfl rfl (Base.gs' _ 81 1 (kC (kidsL lts (x.kids.take i))) (.l 3) rfl hkl.symm) (.sl _ _) rfl ?_ ?_)
    ·rw[hkl];show (i+1) * 8<=_;omega
    ·rw[hkl];show i+1<=_;omega
   ·refine .step rfl (zHP (idxI tabOk rfl rfl rfl rfl rfl rfl rfl (by simp;omega))) ?_
    exact .step rfl (zHP (zLD rfl rfl rfl (Q7p htk))) .nil
   ·refine .step rfl (zHP (idxI tabOk rfl rfl rfl rfl rfl rfl rfl (by simp;omega))) ?_
    exact .step rfl (zHP (zLD rfl rfl rfl (Q7p htk))) .nil
   refine zM ?_
   refine cInv ⟨x.kids.length - (i+1),i+1,fun k=>if k=3 then 4 else k,by omega,⟨by omega,rfl⟩,LessR.of rfl zFS (by simp) ?_ rfl rfl how⟩
   repeat' first|exact LoSub.nil|refine zlc ?_|refine zld ?_ ?_|rfl
   ·simp only[AObj.ren,List.length_append,hkl];rfl
   ·rw[hks,Qcv];simp only[AObj.ren,renL,AC.ren,ren_bC];rw[←Qcv,Qe7];rfl
  have hlt2:i=x.kids.length:=by simp at hb3;omega
  subst hlt2
  rw[List.take_length]
  refine zA ?_
  refine ACode.grow 2 4 46 2 rfl rfl ?_
  refine ACode.loopR hΓ (α:=Nat×Outer×List LAlt) (fun c=>[(54,.one (int c.1)),(53,.one (int (x.alts.map cAlt).length)),(52,.one (.sl 2 (x.alts.map cAlt))),(6,.one (.ptr (.l 2) 0)),(4,.one (int j)),(16,.one (int j)),(15,.one (int (e.map cEx).length)),(14,.one (.sl 5 (e.map cEx))),(3,.one (.arr (.l 0) 1 0 (e.map cEx).length (e.map cEx).length)),(0,.one (.sl 5 (e.map cEx)))])
   (fun c=>⟨5,[(4,.tok 46 2 c.1),(2,.cells [int x.op,int x.n,bC nb x.binds,.gs 1 (kC (kidsL lts x.kids)) (.l 3),.gs 2 (c.2.2.map lAlt) (.l 4)]),(0,.cells (Q1a lts (e.map cEx).length))],c.2.1⟩)
   (fun m c=>c.1<=x.alts.length/\(c.2.2.map LAlt.er=x.alts.take c.1/\(∀y∈c.2.2,ownB y.nb y.binds)/\NewO ow c.2.1 (aO c.2.2))/\m=x.alts.length - c.1) (a0:=(0,ow,[])) (ρ:=id) ⟨by omega,⟨rfl,by simp,.nil how⟩,rfl⟩ (LessR.of rfl zFS (by simp) ?_ rfl rfl how) fun m c hc=>?_
  ·repeat' first|exact LoSub.nil|refine zlc ?_|refine zld ?_ ?_|rfl
   all_goals (simp[AObj.ren,renL,AC.ren];exact⟨rfl,rfl⟩)
  obtain⟨i,oy,la⟩:=c
  obtain⟨hil,⟨hla,hlo,hNa⟩,rfl⟩:=hc
  dsimp only at hil hla hlo hNa
  have hoy:=hNa.ok
  have hll:la.length=i:=by have:=congrArg List.length hla;simp at this;omega
  have hal:(la.map lAlt).length=i:=by simp[hll]
  refine zA ?_
  refine ACode.cond rfl (fun hb3=>?_) (fun hb3=>?_)
  ·have hlt2:i < x.alts.length:=by simpa using hb3
   obtain⟨a,ha⟩:=Q00 hlt2
   refine zA ?_
   refine zS (zIA rfl rfl rfl (by omega) (Q04 ha)) ?_
   refine zA ?_
   refine ACode.drawC tabOk 13 [9,10,11,12] [] (fun vs σ=>match vs with
     |[]=>σ=⟨6,[(5,.cells (cAlt a)),(5,.cells (ti46.zero.map .lit)),(4,.tok 46 2 i),(2,.cells [int x.op,int x.n,bC nb x.binds,.gs 1 (kC (kidsL lts x.kids)) (.l 3),.gs 2 (la.map lAlt) (.l 4)]),(0,.cells (Q1a lts (e.map cEx).length))],oy⟩
     |[q1]=>∃nc oz,ownB nc a.binds/\NewO oy oz (bO nc a.binds)/\q1=.one (bC nc a.binds)/\σ=⟨6,[(5,.cells (cAlt a)),(5,.cells (ti46.zero.map .lit)),(4,.tok 46 2 i),(2,.cells [int x.op,int x.n,bC nb x.binds,.gs 1 (kC (kidsL lts x.kids)) (.l 3),.gs 2 (la.map lAlt) (.l 4)]),(0,.cells (Q1a lts (e.map cEx).length))],oz⟩
     |[q1,q2]=>∃nc oz,ownB nc a.binds/\NewO oy oz (bO nc a.binds)/\q1=.one (bC nc a.binds)/\q2=.agg [int a.tag,bC nc a.binds]/\σ=⟨6,[(5,.cells (cAlt a)),(5,.cells (ti46.zero.map .lit)),(4,.tok 46 2 i),(2,.cells [int x.op,int x.n,bC nb x.binds,.gs 1 (kC (kidsL lts x.kids)) (.l 3),.gs 2 (la.map lAlt) (.l 4)]),(0,.cells (Q1a lts (e.map cEx).length))],oz⟩
     |[q1,q2,q3]=>∃nc oz,ownB nc a.binds/\NewO oy oz (bO nc a.binds)/\q1=.one (bC nc a.binds)/\q2=.agg [int a.tag,bC nc a.binds]/\q3=.one (.sl 2 [[int a.tag,bC nc a.binds]])/\σ=⟨6,[(5,.cells (cAlt a)),(5,.cells (ti46.zero.map .lit)),(4,.tok 46 2 i),(2,.cells [int x.op,int x.n,bC nb x.binds,.gs 1 (kC (kidsL lts x.kids)) (.l 3),.gs 2 (la.map lAlt) (.l 4)]),(0,.cells (Q1a lts (e.map cEx).length))],oz⟩
     |[q1,q2,q3,q4]=>∃nc oz,ownB nc a.binds/\NewO oy oz (bO nc a.binds)/\q1=.one (bC nc a.binds)/\q2=.agg [int a.tag,bC nc a.binds]/\q3=.one (.sl 2 [[int a.tag,bC nc a.binds]])/\q4=.one (.gs 2 (la.map lAlt++[[int a.tag,bC nc a.binds]]) (.l 6))/\σ=⟨7,[(6,.tok 46 2 (la.map lAlt++[[int a.tag,bC nc a.binds]]).length),(4,.dead),(5,.cells (cAlt a)),(5,.cells (ti46.zero.map .lit)),(4,.tok 46 2 i),(2,.cells [int x.op,int x.n,bC nb x.binds,.gs 1 (kC (kidsL lts x.kids)) (.l 3),.gs 2 (la.map lAlt) (.l 4)]),(0,.cells (Q1a lts (e.map cEx).length))],oz⟩
     |_=>False) follows (by kernel_rfl) rfl rfl (by decide) (by kernel_rfl) (by kernel_rfl) rfl rfl ?_ (fun _ _ _=>.nil) (by decide) ?_ ?_
   ·rintro vs σ hG
    match vs,hG with
    |[],hG=>subst hG;rfl
    |[_],hG=>obtain⟨nc,oz,_,_,_,rfl⟩:=hG;rfl
    |[_,_],hG=>obtain⟨nc,oz,_,_,_,_,rfl⟩:=hG;rfl
    |[_,_,_],hG=>obtain⟨nc,oz,_,_,_,_,_,rfl⟩:=hG;rfl
    |[_,_,_,_],hG=>obtain⟨nc,oz,_,_,_,_,_,_,rfl⟩:=hG;rfl
   ·rintro vs σ hG q o hi ho
    match vs,hG with
    |[],hG=>
     subst hG
     cases hi
     cases ho
     refine⟨rfl,rfl,.inr ⟨rfl,Q0w.call hΓ rfl rfl rfl rfl (by simp) hoy (Qfg a.binds (hxo.ab a (List.mem_of_getElem? ha)) oy) fun r oz hq _ _=>?_⟩⟩
     obtain⟨nc,h1,rfl,h2⟩:=hq
     exact⟨nc,oz,h1,h2,rfl,rfl⟩
    |[_],hG=>
     obtain⟨nc,oz,h1,h2,rfl,rfl⟩:=hG
     cases hi
     cases ho
     exact⟨rfl,rfl,.inl ⟨_,_,HStep.auto tabOk rfl,nc,oz,h1,h2,rfl,rfl,rfl⟩⟩
    |[_,_],hG=>
     obtain⟨nc,oz,h1,h2,rfl,rfl,rfl⟩:=hG
     cases hi
     cases ho
     exact⟨rfl,rfl,.inl ⟨_,_,HStep.auto tabOk rfl,nc,oz,h1,h2,rfl,rfl,rfl,rfl⟩⟩
    |[_,_,_],hG=>
     obtain⟨nc,oz,h1,h2,rfl,rfl,rfl,rfl⟩:=hG
     cases hi
     cases ho
     refine⟨rfl,rfl,.inl ⟨_,_,HStep.plain rfl (AStep.append (s:=2) (es:=la.map lAlt) (news:=[[int a.tag,bC nc a.binds]]) (ti:=ti47) tabOk rfl rfl rfl rfl rfl rfl (Base.gs' _ 46 2 (la.map lAlt) (.l 4) rfl hal.symm) (.sl _ _) rfl ?_ ?_),nc,oz,h1,h2,rfl,rfl,rfl,rfl,rfl⟩⟩
     ·rw[hal];show (i+1) * 32<=_;omega
     ·rw[hal];show i+1<=_;omega
    |[_,_,_,_],hG=>cases hi
   rintro vs σ hlen hG
   match vs,hlen,hG with
   |[_,_,_,_],_,hG=>
   obtain⟨nc,oz,hnc,hNc,rfl,rfl,rfl,rfl,rfl⟩:=hG
   refine zM ?_
   obtain⟨la',hla'⟩:∃la',la'=la++[⟨a.tag,nc,a.binds⟩]:=⟨_,rfl⟩
   have hlm:la.map lAlt++[[int a.tag,bC nc a.binds]]=la'.map lAlt:=by rw[hla',List.map_append];rfl
   refine cInv ⟨x.alts.length - (i+1),(i+1,oz,la'),fun k=>if k=4 then 6 else k,by omega,⟨by omega,⟨by rw[hla',List.map_append,hla,Q0n ha];rfl,?_,?_⟩,rfl⟩,LessR.of rfl zFS (by simp) ?_ rfl rfl hNc.ok⟩
   ·intro y hy
    rw[hla']at hy
    rcases List.mem_append.1 hy with hy|hy
    ·exact hlo y hy
    ·simp at hy;subst hy;exact hnc
   ·dsimp only
    rw[hla',Qao,show aO [⟨a.tag,nc,a.binds⟩]=bO nc a.binds by simp[aO]]
    exact hNa.trans hNc
   ·repeat' first|exact LoSub.nil|refine zlc ?_|refine zld ?_ ?_|rfl
    ·simp only[AObj.ren,List.length_append,hal];rfl
    ·simp only[hlm,AObj.ren,renL,AC.ren,ren_bC,Qe7,Qe6];rfl
  have hlt2:i=x.alts.length:=by simp at hb3;omega
  subst hlt2
  rw[List.take_length]at hla
  refine zA ?_
  refine zS (idxI tabOk rfl rfl rfl rfl rfl rfl rfl (by simp;omega)) ?_
  refine AOps.wkObj (.l 2) rfl (cs':=[int x.op,int x.n,bC nb x.binds,.sl 1 (kC (kidsL lts x.kids)),.sl 2 (la.map lAlt)]) (fun w C xs h=>?_) ?_
  ·exact (show WkL _ _ from .cons (.refl _) (.cons (.refl _) (.cons (.refl _) (.cons (.gsE rfl) (.cons (.gsE rfl) .nil))))) w C xs h
  have hθ:∀(k:Nat) (i:Abs.Id),isO i->toOs [2] k i=i:=fun k i hi=>by cases i with|l q=>exact hi.elim|o q=>rfl
  refine AOps.cedes [2] rfl (by decide) hoy fun k hk=>⟨[(77,.one (.ptr (.l 0) j)),(76,.one (.ptr (.o k) 0)),(16,.one (int j)),(15,.one (int (e.map cEx).length)),(14,.one (.sl 5 (e.map cEx))),(3,.one (.arr (.l 0) 1 0 (e.map cEx).length (e.map cEx).length)),(0,.one (.sl 5 (e.map cEx)))],
   [(0,.cells (Q1a lts (e.map cEx).length))],[.cells [int x.op,int x.n,bC nb x.binds,.sl 1 (kC (kidsL lts x.kids)),.sl 2 (la.map lAlt)]],?_,?_,?_,?_⟩
  ·exact .cons rfl rfl (.cons rfl rfl (.cons rfl rfl (.cons rfl rfl (.cons rfl (FV.sub_f (hθ k) _ (by simp)) (.cons rfl rfl (.cons rfl (FV.sub_f (hθ k) _ (by simp)) .nil))))))
  ·exact .cons rfl rfl (AObj.sub_f (hθ k) _ (Qep _ _)) .nil
  ·exact .cons rfl (AObj.sub_f (hθ k) _ (Q3v _ _ _ _ _ _)) .nil
  have hN1:=NewO.add hk hoy (Q3v x.op x.n nb x.binds (kidsL lts x.kids) la)
  have hN2:=((hN.trans hNb).trans hNa).trans hN1
  obtain⟨t,ht⟩:∃t:LTr,t=.mk k x.op x.n nb x.binds (kidsL lts x.kids) la:=⟨_,rfl⟩
  have hto:lts.flatMap ownO++bO nb x.binds++aO la++[(k,.cells [int x.op,int x.n,bC nb x.binds,.sl 1 (kC (kidsL lts x.kids)),.sl 2 (la.map lAlt)])]=(lts++[t]).flatMap ownO:=by
   rw[List.flatMap_append,ht]
   simp[ownO,List.append_assoc]
  rw[hto]at hN2
  have hL2:=hL.snoc (Qbl (by rw[List.take_append_drop];exact hin)) (x:=x) (fun q hq=>by have:=hxin q hq;simp;omega) (id:=k) hla hnb hlo
  rw[←Q0n hx,show LTr.mk k x.op x.n nb x.binds (x.kids.map fun q=>lts.getD q.toNat default) la=t by rw[ht];rfl]at hL2
  refine AOps.storeOwn tabOk rfl rfl rfl rfl rfl rfl rfl rfl (by rw[Qjf (by simp[hgl];omega)];simp;omega) ?_
  have hst:=Qjd (ts:=lts) (n:=(e.map cEx).length) (by simp[hgl];omega) t
  rw[hgl,show t.id=k by rw[ht];rfl]at hst
  rw[hst]
  refine zM ?_
  exact cInv ⟨e.length - (j+1),(j+1,lts++[t],_),id,by omega,⟨by omega,⟨hL2,hN2⟩,rfl⟩,LessR.of rfl zFS (by simp) zLO rfl rfl hN2.ok⟩
 ·have hlt:j=e.length:=by simp at hb2;omega
  subst hlt
  rw[List.take_length]at hL
  obtain⟨N,hNe⟩:∃N,e.length=N+1:=⟨e.length - 1,by have:=List.length_pos_iff.2 hT.ne;omega⟩
  obtain⟨t,ht⟩:=Q00 (l:=lts) (i:=N) (by rw[hL.len];omega)
  have hnt:e.length - 1=N:=by omega
  refine zM ?_
  refine AOps.wk 82 rfl (y:=.one (int (N:Nat))) (.ofEq (by congr 3;simp;omega)) ?_
  refine zS (idxI tabOk rfl rfl rfl rfl rfl rfl rfl (by simp;omega)) ?_
  refine zS (zLD rfl rfl rfl (Q7p ht)) ?_
  refine zA ?_
  have hown:=hL.own hin _ N t (Nat.lt_succ_self _) ht
  refine AFn.fin' rfl (WkF.ofEq rfl) (by simp[AC.ids]) hov ⟨t,rfl,?_,?_,?_,?_,?_,hov,?_⟩
  ·rw[hL.er hin _ N t (Nat.lt_succ_self _) ht]
   unfold grow Q0b;rw[hnt]
  ·exact hL.ok hin (fun x hx=>⟨(he.x x hx).b,(he.x x hx).k,(he.x x hx).a,(he.x x hx).ab⟩) _ N t (Nat.lt_succ_self _) ht
  ·exact fun p hp=>hN.own p (hown p hp)
  ·exact hL.nodup hT hN.nd (by rw[hnt];exact ht)
  ·intro k hk
   obtain⟨p,hp,rfl⟩:=List.mem_map.1 hk
   exact hN.new p.1 (List.mem_map_of_mem (hown p hp))
  ·intro m o hm
   show ov m=some o
   rw[hN.old m fun hmk=>by have:=hN.new m hmk;rw[hm]at this;cases this]
   exact hm
end Go.Proofs.YtpaonemmbhbgoaaGreatDoor
namespace Go.CoreX
def rnTA (nm:Nm)(f:Int):List Alt->List Alt×Nm×Int
 |[]=>([],nm,f)
 |x::l=>(⟨x.tag,frB f x.binds⟩::(rnTA (frN nm f x.binds) (f+x.binds.length) l).1,(rnTA (frN nm f x.binds) (f+x.binds.length) l).2)
mutual
def rnT (nm:Nm)(f:Int):Tr->Tr×Nm×Int
 |.mk o n b k a=>
  let s1:=ren1 o nm f b
  let s2:=rnTA s1.2.1 s1.2.2 a
  let s3:=rnTs s2.2.1 s2.2.2 k
  (.mk o (if o=0 then (nm n).getD n else n) s1.1 s3.1 s2.1,s3.2)
def rnTs (nm:Nm)(f:Int):List Tr->List Tr×Nm×Int
 |[]=>([],nm,f)
 |t::l=>((rnT nm f t).1::(rnTs (rnT nm f t).2.1 (rnT nm f t).2.2 l).1,(rnTs (rnT nm f t).2.1 (rnT nm f t).2.2 l).2)
end
theorem Ql0:∀(l:List LAlt)(nm:Nm)(f:Int),(rnAs nm f l).1.map LAlt.er=(rnTA nm f (l.map LAlt.er)).1/\(rnAs nm f l).2=(rnTA nm f (l.map LAlt.er)).2
 |[],_,_=>⟨rfl,rfl⟩
 |x::l,nm,f=>by
  have ih:=Ql0 l (frN nm f x.binds) (f+x.binds.length)
  simp only[rnAs,List.map_cons,rnTA,ih.1]
  exact⟨rfl,ih.2⟩
mutual
theorem rnL_er:∀(t:LTr)(nm:Nm)(f:Int),erT (rnL nm f t).1=(rnT nm f (erT t)).1/\(rnL nm f t).2=(rnT nm f (erT t)).2
 |.mk i o n nb b k a,nm,f=>by
  have h2:=Ql0 a (ren1 o nm f b).2.1 (ren1 o nm f b).2.2
  have h3:=Qkz k (rnAs (ren1 o nm f b).2.1 (ren1 o nm f b).2.2 a).2.1 (rnAs (ren1 o nm f b).2.1 (ren1 o nm f b).2.2 a).2.2
  rw[h2.2]at h3
  simp only[rnL,erT,rnT,h2.1,h2.2,h3.1,h3.2]
  exact⟨trivial,trivial⟩
theorem Qkz:∀(l:List LTr)(nm:Nm)(f:Int),erTs (rnLs nm f l).1=(rnTs nm f (erTs l)).1/\(rnLs nm f l).2=(rnTs nm f (erTs l)).2
 |[],_,_=>⟨rfl,rfl⟩
 |t::l,nm,f=>by
  have h1:=rnL_er t nm f
  have h2:=Qkz l (rnL nm f t).2.1 (rnL nm f t).2.2
  rw[h1.2]at h2
  simp only[rnLs,erTs,rnTs,h1.1,h1.2,h2.1,h2.2]
  exact⟨trivial,trivial⟩
end
def nbLab (l:Lab):Int:=(if l.op=9 then 0 else l.binds.length:Nat)+((l.alts.map fun x=>x.binds.length).sum:Nat)
theorem nbA_er(l:List LAlt):nbA l=((l.map LAlt.er).map fun x=>x.binds.length).sum:=by simp[nbA,Function.comp_def,LAlt.er]
mutual
theorem nbL_er:∀t:LTr,((nbL t:Nat):Int)=sumT nbLab (erT t)
 |.mk i o n nb b k a=>by
  have:=Qlp k
  simp only[nbL,erT,sumT,nbLab,nbA_er,←this];push_cast;omega
theorem Qlp:∀l:List LTr,((nbLs l:Nat):Int)=sumTs nbLab (erTs l)
 |[]=>by simp[nbLs,erTs,sumTs]
 |t::l=>by
  have h1:=nbL_er t
  have h2:=Qlp l
  simp only[nbLs,erTs,sumTs,←h1,←h2];push_cast;rfl
end
def nbE (e:List Ex):Int:=sumT nbLab (grow e)
theorem Qhg(o:Int)(nm:Nm)(f:Int)(b:List Int):(ren1 o nm f b).1.length=b.length:=by
 unfold ren1;split
 ·rfl
 ·exact Qa7 f b
theorem Qhc:∀(l:List Alt)(nm:Nm)(f:Int),(rnTA nm f l).1.map (fun x=>x.binds.length)=l.map fun x=>x.binds.length
 |[],_,_=>rfl
 |x::l,nm,f=>by simp only[rnTA,List.map_cons,Qa7,Qhc l]
theorem Qgb{l r:List Alt}(h:l.map (fun x=>x.binds.length)=r.map fun x=>x.binds.length):(l.flatMap (·.binds)).length=(r.flatMap (·.binds)).length:=by
 simp only[List.length_flatMap];exact congrArg List.sum h
theorem mem_len{l r:List Alt}(h:l.map (fun x=>x.binds.length)=r.map fun x=>x.binds.length){c:Nat}(hr:∀x∈r,x.binds.length<=c):∀x∈l,x.binds.length<=c:=fun x hx=>by
 have:x.binds.length∈r.map fun x=>x.binds.length:=by rw[←h];exact List.mem_map_of_mem (f:=fun x:Alt=>x.binds.length) hx
 obtain⟨y,hy,e⟩:=List.mem_map.1 this
 rw[←e];exact hr y hy
mutual
theorem Qkv:∀(t:Tr)(nm:Nm)(f:Int),cntN (rnT nm f t).1=cntN t
 |.mk o n b k a,nm,f=>by simp only[rnT,cntN,Qhb k]
theorem Qhb:∀(l:List Tr)(nm:Nm)(f:Int),cntNs (rnTs nm f l).1=cntNs l
 |[],_,_=>rfl
 |t::l,nm,f=>by simp only[rnTs,cntNs,Qkv t,Qhb l]
end
end Go.CoreX
namespace Go.Proofs.YtpaonemmbhbgoaaGreatDoor
open Go Go.Abs Go.CoreX
variable {Γ:List (Nat×List AC)}
theorem nb_le{e:List Ex}(he:okB e)(h:IsTree e):nbE e<=4398046511104:=by
 have hel:=he.eo.l
 unfold nbE
 rw[←Q4d _ h]
 unfold labs
 rw[List.map_map,show (nbLab∘labE e)=fun x=>nbLab (labE e x)from rfl]
 have key:∀l:List Ex,(∀x∈l,x∈e)->(l.map fun x=>nbLab (labE e x)).sum<=l.length * 4194304:=by
  intro l
  induction l with
  |nil=>simp
  |cons x l ih=>
   intro hl
   have h1:=he.b x (hl x (by simp))
   have h2:=ih fun y hy=>hl y (by simp[hy])
   have h3:nbLab (labE e x)<=4194304:=by
    have h4:(x.alts.flatMap (·.binds)).length=(x.alts.map fun y=>y.binds.length).sum:=by simp[List.length_flatMap]
    simp only[nbLab,labE]
    rw[←h4]
    have h5:(if (labE e x).op=9 then 0 else x.binds.length)<=x.binds.length:=by split <;> omega
    have h6:(if (labE e x).op=9 then 0 else x.binds.length)+(x.alts.flatMap (·.binds)).length<=4194304:=by omega
    clear h5 h4 ih h2
    simp only[labE]at h6 ⊢
    generalize (if x.op=9 then 0 else x.binds.length)=q at h6 ⊢
    omega
   simp only[List.map_cons,List.sum_cons,List.length_cons]
   push_cast
   omega
 have:=key e fun _ h=>h
 have h2:(e.length:Int) * 4194304<=1048576 * 4194304:=Int.mul_le_mul_of_nonneg_right (by omega) (by omega)
 omega
end Go.Proofs.YtpaonemmbhbgoaaGreatDoor
namespace Go.CoreX
-- What holds of all nodes.
mutual
def allT (p:Lab->Prop):Tr->Prop
 |.mk o n b k a=>p ⟨o,n,b,k.map Tr.op,a⟩/\allTs p k
def allTs (p:Lab->Prop):List Tr->Prop
 |[]=>True
 |t::l=>allT p t/\allTs p l
end
theorem Q4b{p:Lab->Prop}:∀{l:List Tr},allTs p l↔∀t∈l,allT p t
 |[]=>by simp[allTs]
 |t::l=>by simp[allTs,Q4b (l:=l)]
theorem Qmz{e:List Ex}(hk:Q0t e){p:Lab->Prop}(h:∀x∈e,p (labE e x)):∀(n i:Nat),i < n->i < e.length->allT p (Q0b e i)
 |0,i,hi,_=>by omega
 |n+1,i,hi,hl=>by
  obtain⟨x,hx⟩:∃x,e[i]?=some x:=⟨e[i],List.getElem?_eq_getElem hl⟩
  rw[Q2a hk hx]
  refine⟨?_,Q4b.2 fun t ht=>?_⟩
  ·have:=h x (List.mem_of_getElem? hx)
   simp only[labE]at this
   simp only[List.map_map]
   exact this
  ·obtain⟨q,hq,rfl⟩:=List.mem_map.1 ht
   have:=hk i x hx q hq
   exact Qmz hk h n q.toNat (by omega) (by omega)
theorem Qam{e:List Ex}(h:IsTree e){p:Lab->Prop}(hp:∀x∈e,p (labE e x)):allT p (grow e):=by
 have:=List.length_pos_iff.2 h.ne
 exact Qmz h.k hp _ (e.length - 1) (Nat.lt_succ_self _) (by omega)
theorem Qkw:∀(a:List Alt)(nm:Nm)(f:Int),Q1l a (rnTA nm f a).1=true
 |[],_,_=>rfl
 |x::l,nm,f=>by simp[rnTA,Q1l,Qa7,Qkw l]
theorem rnTA_l:∀(a:List Alt)(nm:Nm)(f:Int),(rnTA nm f a).1.length=a.length
 |[],_,_=>rfl
 |x::l,nm,f=>by simp[rnTA,rnTA_l l]
theorem rnT_op(t:Tr)(nm:Nm)(f:Int):(rnT nm f t).1.op=t.op:=by cases t;rfl
theorem Qha:∀(l:List Tr)(nm:Nm)(f:Int),(rnTs nm f l).1.map Tr.op=l.map Tr.op
 |[],_,_=>rfl
 |t::l,nm,f=>by simp only[rnTs,List.map_cons,rnT_op,Qha l]
end Go.CoreX
namespace Go.CoreX
structure ShN (o n:Int)(b:List Int)(k:Nat)(a:List Alt):Prop where
 sh:∃ops:List Int,ops.length=k/\shape ⟨o,n,b,ops,a⟩=true
section
variable {o n:Int}{b:List Int}{k:Nat}{a:List Alt}
theorem ShN.want(h:ShN o n b k a)(h7:¬(o=7∨o=13)):∃w:Int×Int×Bool,(∃ops:List Int,ops.length=k/\wants ⟨o,n,b,ops,a⟩=some w)/\(k:Int)=w.1/\(b.length:Int)=w.2.1/\a=[]:=by
 obtain⟨ops,hl,h⟩:=h.sh
 unfold shape at h
 rw[if_neg h7]at h
 split at h
 ·cases h
 ·rename_i kk bb u hw
  simp only[Bool.and_eq_true,beq_iff_eq,List.length_eq_zero_iff]at h
  exact⟨_,⟨ops,hl,hw⟩,by rw[←hl];exact h.1.1.1,h.1.1.2,h.1.2⟩
theorem ShN.lam(h:ShN 2 n b k a):k=1/\a=[]:=by
 obtain⟨w,⟨ops,hl,hw⟩,h1,h2,h3⟩:=h.want (by omega)
 cases hw;exact⟨by simp at h1;omega,h3⟩
theorem ShN.app(h:ShN 3 n b k a):1<=k/\b=[]/\a=[]:=by
 obtain⟨w,⟨ops,hl,hw⟩,h1,h2,h3⟩:=h.want (by omega)
 cases hw
 refine⟨?_,List.length_eq_zero_iff.1 (by simp at h2;simp[h2]),h3⟩
 simp only at h1;split at h1 <;> omega
theorem ShN.lett(h:ShN 4 n b k a):k=2/\b.length=1/\a=[]:=by
 obtain⟨w,⟨ops,hl,hw⟩,h1,h2,h3⟩:=h.want (by omega)
 cases hw;exact⟨by simp at h1;omega,by simp at h2;omega,h3⟩
theorem ShN.recs(h:ShN 5 n b k a):k=b.length+1/\1<=b.length/\a=[]:=by
 obtain⟨w,⟨ops,hl,hw⟩,h1,h2,h3⟩:=h.want (by omega)
 cases hw
 refine⟨by simp at h1;omega,?_,h3⟩
 simp only at h2;split at h2 <;> omega
theorem ShN.prim(h:ShN 8 n b k a):0<=n/\n<=11/\(k:Int)=Q5l.getD n.toNat 0/\b=[]/\a=[]:=by
 obtain⟨w,⟨ops,hl,hw⟩,h1,h2,h3⟩:=h.want (by omega)
 have hw:(if between n 0 11=true then some (Q5l.getD n.toNat 0,(0:Int),true)else none)=some w:=hw
 split at hw
 ·rename_i hb
  cases hw
  simp[between]at hb
  exact⟨hb.1,hb.2,h1,List.length_eq_zero_iff.1 (by simp at h2;simp[h2]),h3⟩
 ·cases hw
theorem ShN.row(h:ShN 9 n b k a):k=b.length/\a=[]:=by
 obtain⟨w,⟨ops,hl,hw⟩,h1,h2,h3⟩:=h.want (by omega)
 cases hw;exact⟨by simp at h1;omega,h3⟩
theorem ShN.one(h:ShN o n b k a)(ho:o=10∨o=12∨o=16):k=1/\b=[]/\a=[]:=by
 obtain⟨w,⟨ops,hl,hw⟩,h1,h2,h3⟩:=h.want (by omega)
 rcases ho with rfl|rfl|rfl <;> (cases hw;exact⟨by simp at h1;omega,List.length_eq_zero_iff.1 (by simp at h2;simp[h2]),h3⟩)
theorem ShN.alts7(h:ShN o n b k a)(ho:o=7∨o=13):k=1+a.length/\b=[]/\(o=13->1<=a.length)/\∀i x,a[i]?=some x->Q4v ⟨o,n,b,[],a⟩ i x=false:=by
 obtain⟨ops,hl,h⟩:=h.sh
 unfold shape at h
 rw[if_pos ho]at h
 simp only[Bool.and_eq_true,beq_iff_eq,List.length_eq_zero_iff]at h
 obtain⟨⟨h1,h2⟩,h3⟩:=h
 unfold Q5y at h1
 simp only[Bool.and_eq_true,Bool.not_eq_true',beq_iff_eq,Bool.or_eq_true,decide_eq_true_eq]at h1
 obtain⟨h4,h5,h6⟩:=h1
 refine⟨by omega,h2,fun h13=>?_,fun i x hx=>?_⟩
 ·rcases h6 with h6|h6
  ·subst h13;cases h6
  ·omega
 ·rw[List.any_eq_false]at h4
  have:=h4 (x,i) (by rw[List.mk_mem_zipIdx_iff_getElem?];exact hx)
  simpa[Q4v]using this
theorem ShN.case(h:ShN 7 n b k a):k=1+a.length/\b=[]:=⟨(h.alts7 (.inl rfl)).1,(h.alts7 (.inl rfl)).2.1⟩
theorem ShN.handle(h:ShN 13 n b k a):k=1+a.length/\b=[]/\1<=a.length/\∀i x,a[i]?=some x->(i=0↔x.tag=-1)/\x.binds.length=if i=0 then 1 else 2:=by
 obtain⟨h1,h2,h3,h4⟩:=h.alts7 (.inr rfl)
 refine⟨h1,h2,h3 rfl,fun i x hx=>?_⟩
 have:=h4 i x hx
 simp only[Q4v,Bool.or_eq_false_iff,Bool.and_eq_false_iff,Bool.not_eq_false',beq_iff_eq,beq_eq_false_iff_ne]at this
 obtain⟨_,h5,h6⟩:=this
 refine⟨?_,?_⟩
 ·rcases h5 with h5|h5
  ·exact absurd rfl h5
  ·by_cases hi:i=0
   ·subst hi;simpa using h5
   ·have:((i:Int)==0)=false:=by simp[hi]
    rw[this]at h5
    simp[hi]at h5 ⊢;exact h5
 ·rcases h6 with h6|h6
  ·exact absurd rfl h6
  ·split at h6
   ·rw[if_neg (by omega)];omega
   ·rename_i hh
    have:i=0∨i=1:=by omega
    rcases this with rfl|rfl <;> simp <;> omega
end
def shpQ (l:Lab):Prop:=ShN l.op l.n l.binds l.ops.length l.alts
theorem Qkn{t:Tr}(h:allT shpQ t):ShN t.op t.n t.binds t.kids.length t.alts:=by
 cases t with
 |mk o n b k a=>simpa[shpQ]using h.1
theorem Qp7{p:Lab->Prop}{t s:Tr}(h:allT p t)(hs:s∈t.kids):allT p s:=by
 cases t with
 |mk o n b k a=>exact Q4b.1 h.2 s hs
theorem Q3e{p:Lab->Prop}{t:Tr}(h:allT p t){i:Nat}(hi:i < t.kids.length):allT p (t.kids.getD i default):=by
 rw[List.getD_eq_getElem?_getD,List.getElem?_eq_getElem hi]
 exact Qp7 h (List.getElem_mem hi)
theorem Q2q{p:Lab->Prop}{t:Tr}(h:allT p t):p ⟨t.op,t.n,t.binds,t.kids.map Tr.op,t.alts⟩:=by
 cases t with
 |mk o n b k a=>exact h.1
mutual
theorem Q79{p q:Lab->Prop}(h:∀l,p l->q l):∀t:Tr,allT p t->allT q t
 |.mk o n b k a,ht=>⟨h _ ht.1,Qfd h k ht.2⟩
theorem Qfd{p q:Lab->Prop}(h:∀l,p l->q l):∀l:List Tr,allTs p l->allTs q l
 |[],_=>trivial
 |t::l,ht=>⟨Q79 h t ht.1,Qfd h l ht.2⟩
end
theorem shpQ_of{l:Lab}(h:shape ⟨l.op,l.n,l.binds,l.ops,l.alts⟩=true):shpQ l:=⟨⟨l.ops,rfl,h⟩⟩
end Go.CoreX
namespace Go.CoreX
-- Names that a tree does not bind keep their new names.
end Go.CoreX
namespace Go.CoreX
def tl (a:Alt):Int×Nat:=(a.tag,a.binds.length)
end Go.CoreX
namespace Go.CoreX
def pLab (l:Lab):Prop:=∀(e:List Ex)(x:Ex),(∀k∈x.kids,0<=k/\k < (e.length:Int))->labE e x=l->Q0l false e x=0
theorem sum0{α:Type}{f:α->Int}:∀{l:List α},(∀x∈l,0<=f x)->(l.map f).sum=0->∀x∈l,f x=0
 | [], _, _, x, hx => by simp at hx
 |y::l,h,hs,x,hx=>by
  have h1:=h y (by simp)
  have h2:∀z∈l,0<=f z:=fun z hz=>h z (by simp[hz])
  have h3:0<=(l.map f).sum:=by
   clear h h1 hs hx
   induction l with
   |nil=>simp
   |cons z l ih=>
    have:=h2 z (by simp)
    have:=ih fun y hy=>h2 y (by simp[hy])
    simp only[List.map_cons,List.sum_cons];omega
  simp only[List.map_cons,List.sum_cons]at hs
  rcases List.mem_cons.1 hx with rfl|hx
  ·omega
  ·exact sum0 h2 (by omega) x hx
open Classical in
mutual
theorem Qkd{p:Lab->Prop}:∀t:Tr,allT p t->sumT (fun l=>if p l then 0 else 1) t=0
 |.mk o n b k a,h=>by
  simp only[sumT,Qgz k h.2]
  rw[if_pos h.1];rfl
theorem Qgz{p:Lab->Prop}:∀l:List Tr,allTs p l->sumTs (fun l=>if p l then 0 else 1) l=0
 |[],_=>rfl
 |t::l,h=>by simp only[sumTs,Qkd t h.1,Qgz l h.2];rfl
end
open Classical in
theorem Qal{p:Lab->Prop}{g:List Ex}(h:IsTree g)(ha:allT p (grow g)):∀l∈labs g,p l:=by
 have h1:=Q4d (fun l=>if p l then (0:Int)else 1) h
 rw[Qkd _ ha]at h1
 intro l hl
 have:=sum0 (fun x _=>by split <;> omega) h1 l hl
 split at this
 ·assumption
 ·cases this
theorem Q4p{e:List Ex}(h:check e=0):Q1m e=0/\(∀x∈e,Q0l false e x=0)/\(Q0a e).Nodup/\occT [] (grow e)=[]:=by
 unfold check body at h
 by_cases h1:Q1m e=0
 ·rw [if_neg (by simpa using h1)] at h
  by_cases h2:Q1k (Q0l false e) e=0
  ·rw[if_neg (by simpa using h2)]at h
   by_cases h3:Q5c ([]++Q0a e)=true
   ·rw[if_pos h3]at h;cases h
   ·rw[if_neg h3]at h
    have h3':=(Q1s _).1 (by simpa using h3)
    refine⟨h1,(Q1u _ _).1 h2,by simpa using h3',?_⟩
    by_cases h4:(Q3n (grow e)).all (fun n=>([]:List Int).contains n)=true
    ·have h5:Q3n (grow e)=[]:=by
      cases hf:Q3n (grow e) with
      |nil=>rfl
      |cons n l=>rw[hf]at h4;simp at h4
     unfold Q3n at h5
     cases ho:occT [] (grow e) with
     |nil=>rfl
     |cons n l=>
      have:=(Q6m n (n::l)).2 (by simp)
      rw[←ho,h5]at this
      simp at this
    ·rw[if_neg h4]at h;cases h
  ·rw[if_pos (by simpa using h2)]at h;exact absurd h h2
 ·rw[if_pos h1]at h;exact absurd h h1
theorem Qp0{e:List Ex}(h1:Q1m e=0)(h2:∀x∈e,Q0l false e x=0)(h3:(Q0a e).Nodup)(h4:occT [] (grow e)=[]):check e=0:=by
 unfold check body
 rw[if_neg (by simpa using h1),if_neg (by simpa using (Q1u _ _).2 h2),if_neg (by rw[(Q1s _).2 (by simpa using h3)];simp),if_pos]
 unfold Q3n
 rw[h4];rfl
abbrev nmN:Nm:=fun _=>none
end Go.CoreX
namespace Go.Proofs.YtpaonemmbhbgoaaGreatDoor
open Go Go.Abs Go.CoreX
variable {Γ:List (Nat×List AC)}
end Go.Proofs.YtpaonemmbhbgoaaGreatDoor
namespace Go.CoreX
structure pOk (l:Lab):Prop where
 b:l.binds.length<=1048576
 k:l.ops.length<=1048576
 a:l.alts.length<=1048576
 ab:∀x∈l.alts,x.binds.length<=1048576
 s:l.binds.length+(l.alts.flatMap (·.binds)).length<=4194304
mutual
theorem Qku:∀(t:Tr)(nm:Nm)(f:Int),allT pOk t->allT pOk (rnT nm f t).1
 |.mk o n b k a,nm,f,h=>by
  obtain⟨h1,h2⟩:=h
  have e1:=Qhc a (ren1 o nm f b).2.1 (ren1 o nm f b).2.2
  refine⟨⟨?_,?_,?_,?_,?_⟩,Qh9 k _ _ h2⟩
  ·simp only[Qhg];exact h1.b
  ·simp only[Qha];exact h1.k
  ·simp only[rnTA_l];exact h1.a
  ·exact mem_len e1 h1.ab
  ·simp only[Qhg,Qgb e1];exact h1.s
theorem Qh9:∀(l:List Tr)(nm:Nm)(f:Int),allTs pOk l->allTs pOk (rnTs nm f l).1
 |[],_,_,_=>trivial
 |t::l,nm,f,h=>⟨Qku t nm f h.1,Qh9 l _ _ h.2⟩
end
-- Two lists in order, with the same members, are one list.
end Go.CoreX
namespace Go.Proofs.YtpaonemmbhbgoaaGreatDoor
open Go Go.Abs Go.CoreX
theorem Qhp{e:List Ex}(he:okB e):∀l∈labs e,pOk l:=fun l hl=>by
 obtain⟨x,hx,rfl⟩:=List.mem_map.1 hl
 have h:=he.eo.x x hx
 exact⟨h.b,by simpa[labE]using h.k,h.a,h.ab,he.b x hx⟩
theorem Qjc{g:List Ex}(hl:g.length<=1048576)(h:∀l∈labs g,pOk l):okB g:=by
 refine⟨⟨hl,fun x hx=>?_⟩,fun x hx=>?_⟩
 ·have:=h _ (List.mem_map_of_mem (f:=labE g) hx)
  exact⟨this.b,by simpa[labE]using this.k,this.a,this.ab⟩
 ·exact (h _ (List.mem_map_of_mem (f:=labE g) hx)).s
end Go.Proofs.YtpaonemmbhbgoaaGreatDoor
namespace Go.CoreX
end Go.CoreX
