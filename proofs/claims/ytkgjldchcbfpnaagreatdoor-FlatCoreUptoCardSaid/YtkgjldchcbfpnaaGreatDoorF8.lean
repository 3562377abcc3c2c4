/- Grow, walked. -/
import Derived.Test.YtkgjldchcbfpnaaGreatDoorF7
import Derived.Shelf.Sort.Plain
import Derived.Shelf.Slices.In.SortNone
set_option maxRecDepth 10000
set_option linter.unusedVariables false
set_option linter.unusedSimpArgs false
namespace Go.Proofs.YtkgjldchcbfpnaaGreatDoor
open Go Go.Abs Go.CoreX
variable {Γ:List (Nat×List AC)}
@[simp] theorem ids_takeA (p:Abs.Id->Prop) (n:Nat) (l:List Alt):idsS p (List.take n (l.map cAlt)):=by rw[←List.map_take];exact Qa6 p _
@[simp] theorem ids_takeI (p:Abs.Id->Prop) (n:Nat) (l:List Int):idsS p (List.take n (l.map cI)):=by rw[←List.map_take];exact Qgf p _
@[simp] theorem renS_nil (ρ:Nat->Nat):renS ρ []=[]:=rfl
def Q25 (ts:List Tr)(n:Nat):List AC:=ts.map (fun t=>.box (cTr t))++List.replicate (n - ts.length) (.lit (.pointer none))
theorem Qdu(n:Nat):Q25 [] n=List.replicate n (.lit (.pointer none)):=by simp[Q25]
theorem Qdv{ts:List Tr}{n:Nat}(h:ts.length<=n):(Q25 ts n).length=n:=by simp[Q25];omega
theorem Q5h{ts:List Tr}{n k:Nat}{t:Tr}(h:ts[k]?=some t):(Q25 ts n)[k]?=some (.box (cTr t)):=by
 have hk:=(List.getElem?_eq_some_iff.1 h).1
 unfold Q25
 rw[List.getElem?_append_left (by simpa using hk)]
 simp[h]
theorem Qdt{ts:List Tr}{n:Nat}(h:ts.length < n)(t:Tr):(Q25 ts n).set ts.length (.box (cTr t))=Q25 (ts++[t]) n:=by
 unfold Q25
 rw[List.set_append_right _ _ (by simp)]
 simp only[List.length_map,Nat.sub_self,List.map_append,List.map_cons,List.map_nil,List.append_assoc,List.length_append,List.length_singleton]
 congr 1
 rw[show n - ts.length=(n - (ts.length+1))+1 by omega,List.replicate_succ]
 rfl
theorem Qa7(p:Abs.Id->Prop):∀ts:List Tr,idsL p (ts.map fun t=>AC.box (cTr t))
 |[]=>by simp
 |t::ts=>by simp[Qa7 p ts]
theorem Q66{p:Abs.Id->Prop}:∀{a b:List AC},idsL p a->idsL p b->idsL p (a++b)
 |[],_,_,h=>h
 |_::_,_,h,k=>⟨h.1,Q66 h.2 k⟩
@[simp] theorem ids_nodesC (p:Abs.Id->Prop) (ts:List Tr) (n:Nat):idsL p (Q25 ts n):=Q66 (Qa7 p ts) (Qga p _ _)
def kidsT (ts:List Tr)(ks:List Int):List Tr:=ks.map fun k=>ts.getD k.toNat default
theorem Qdy{ts:List Tr}{ks:List Int}{i:Nat}{k:Int}(h:ks[i]?=some k):kidsT ts (ks.take (i+1))=kidsT ts (ks.take i)++[ts.getD k.toNat default]:=by
 simp[kidsT,List.take_add_one,h]
theorem Qft(ts:List Tr)(x:Ex):Q2i ts x=.mk x.op x.n x.binds (kidsT ts x.kids) x.alts:=rfl
theorem Q2d{α:Type}{l:List α}{j:Nat}{a:α}(h:l[j]?=some a):l.take (j+1)=l.take j++[a]:=by rw[List.take_add_one,h];rfl
set_option maxHeartbeats 1000000 in
theorem Q9i(hΓ:∀g cs,(g,cs)∈Γ->idsL isO cs)(e:List Ex)(he:okE e)(hin:Q15 e)(hne:e≠[]):APure Tryz.prog Γ 24 [.one (.sl 5 (e.map cEx))] (.one (.box (cTr (grow e)))):=by
 have hel:=he.l
 intro ou
 refine AFn.walk 85 tabOk Tryz.func24 rfl (by kernel_rfl) rfl rfl fun hou=>?_
 refine zA ?_
 have hb:ti65.bytes * (e.map cEx).length<=281474976710656:=by simp;show 8 * _<=_;omega
 have hb2:(e.map cEx).length<=281474976710656:=by simp;omega
 refine zS (AStep.makeArr tabOk rfl rfl rfl rfl rfl rfl rfl rfl hb hb2) ?_
 refine zA ?_
 refine ACode.loopR hΓ (α:=Nat) (fun j=>[(16,.one (int j)),(15,.one (int (e.map cEx).length)),(14,.one (.sl 5 (e.map cEx))),(3,.one (.arr (.l 0) 1 0 (e.map cEx).length (e.map cEx).length)),(0,.one (.sl 5 (e.map cEx)))])
  (fun j=>⟨1,[(0,.cells (Q25 (growL (e.take j)) (e.map cEx).length))],ou⟩) (fun m j=>j<=e.length/\m=e.length - j) (a0:=0) (ρ:=id) ⟨by omega,rfl⟩
  (LessR.of rfl zFS (by simp) (LoSub.cons rfl (by rw[AObj.ren_pure _ _ (by simp)];show AObj.cells (List.replicate _ _)=AObj.cells (Q25 [] _);rw[Qdu]) rfl (by simp) .nil) rfl rfl hou) fun m j hj=>?_
 obtain⟨hjl,rfl⟩:=hj
 refine zA ?_
 refine ACode.cond rfl (fun hb2=>?_) (fun hb2=>?_)
 ·have hlt:j < e.length:=by simpa using hb2
  obtain⟨x,hx⟩:=Q01 hlt
  have hxo:=he.x x (List.mem_of_getElem? hx)
  have hxk:=hxo.k
  have hxa:=hxo.a
  have hxin:=hin j x hx
  have hgl:(growL (e.take j)).length=j:=by rw[Q1a];simp;omega
  refine zA ?_
  refine zS (zIA rfl rfl rfl (by omega) (Q06 hx)) ?_
  refine zA ?_
  have hcl:=Qdf (Γ:=Γ) x.binds hxo.b
  refine ACode.drawXH (va:=.one (.ptr (.l 2) 0)) (σ1:=(((St.mk 1 [(0,.cells (Q25 (growL (e.take j)) (e.map cEx).length))] ou).push (.cells (ti75.zero.map .lit))).set (.l 1) (.cells (cEx x))).push (.cells [int x.op,int x.n,.sl 1 (x.binds.map cI),.lit (.slice none 0 0),.lit (.slice none 0 0)]))
   tabOk 9 8 [(6,.one (.sl 1 (x.binds.map cI)))] follows (by kernel_rfl) rfl rfl rfl rfl rfl rfl rfl (HStep.auto tabOk rfl) ?_ ?_ ?_
  ·exact .call hΓ hcl hou (by simp) rfl rfl rfl rfl rfl rfl .nil
  ·exact .call hΓ hcl hou (by simp) rfl rfl rfl rfl rfl rfl .nil
  refine zA ?_
  refine ACode.grow 2 3 65 1 rfl rfl ?_
  refine ACode.loopR hΓ (α:=Nat) (fun i=>[(33,.one (int i)),(32,.one (int (x.kids.map cI).length)),(31,.one (.sl 1 (x.kids.map cI))),(6,.one (.ptr (.l 2) 0)),(5,.one (.ptr (.l 1) 0)),(4,.one (int j)),(16,.one (int j)),(15,.one (int (e.map cEx).length)),(14,.one (.sl 5 (e.map cEx))),(3,.one (.arr (.l 0) 1 0 (e.map cEx).length (e.map cEx).length)),(0,.one (.sl 5 (e.map cEx)))])
   (fun i=>⟨4,[(3,.tok 65 1 i),(2,.cells [int x.op,int x.n,.sl 1 (x.binds.map cI),.gs 1 ((kidsT (growL (e.take j)) (x.kids.take i)).map cB) (.l 3),.lit (.slice none 0 0)]),(1,.cells (cEx x)),(0,.cells (Q25 (growL (e.take j)) (e.map cEx).length))],ou⟩)
   (fun m i=>i<=x.kids.length/\m=x.kids.length - i) (a0:=0) (ρ:=id) ⟨by omega,rfl⟩ (LessR.of rfl zFS (by simp) ?_ rfl rfl hou) fun m i hi=>?_
  ·repeat' first|exact LoSub.nil|refine zlc ?_|refine zld ?_ ?_|rfl
   all_goals (simp[AObj.ren,renL,AC.ren,kidsT];rfl)
  obtain⟨hil,rfl⟩:=hi
  refine zA ?_
  refine ACode.cond rfl (fun hb3=>?_) (fun hb3=>?_)
  ·have hlt2:i < x.kids.length:=by simpa using hb3
   obtain⟨k,hk⟩:=Q01 hlt2
   have hkb:=hxin k (List.mem_of_getElem? hk)
   obtain⟨k',rfl⟩:∃k':Nat,k=k':=⟨k.toNat,by omega⟩
   obtain⟨tk,htk⟩:=Q01 (l:=growL (e.take j)) (i:=k') (by omega)
   have htd:(growL (e.take j)).getD (k':Int).toNat default=tk:=by rw[Int.toNat_natCast,List.getD_eq_getElem?_getD,htk];rfl
   have hks:=Qdy (ts:=growL (e.take j)) hk
   rw[htd]at hks
   have hkl:((kidsT (growL (e.take j)) (x.kids.take i)).map cB).length=i:=by simp[kidsT];omega
   refine zA ?_
   refine zS (zIA rfl rfl rfl (by omega) (Q06 hk)) ?_
   refine zA ?_
   refine ACode.drawXH (va:=.one (.gs 1 ((kidsT (growL (e.take j)) (x.kids.take i)).map cB++[cB tk]) (.l 4))) (σ1:=((St.mk 4 [(3,.tok 65 1 i),(2,.cells [int x.op,int x.n,.sl 1 (x.binds.map cI),.gs 1 ((kidsT (growL (e.take j)) (x.kids.take i)).map cB) (.l 3),.lit (.slice none 0 0)]),(1,.cells (cEx x)),(0,.cells (Q25 (growL (e.take j)) (e.map cEx).length))] ou).set (.l 3) .dead).push (.tok 65 1 ((kidsT (growL (e.take j)) (x.kids.take i)).map cB++[cB tk]).length))
    tabOk 11 10 [(7,.one (.ptr (.l 0) k')),(8,.one (.box (cTr tk)))] follows (by kernel_rfl) rfl rfl rfl rfl rfl rfl rfl ?_ ?_ ?_ ?_
   ·refine HStep.plain rfl (AStep.append (s:=1) (es:=(kidsT (growL (e.take j)) (x.kids.take i)).map cB) (news:=[cB tk]) (ti:=ti112) (σ:=⟨4,[(3,.tok 65 1 i),(2,.cells [int x.op,int x.n,.sl 1 (x.binds.map cI),.gs 1 ((kidsT (growL (e.take j)) (x.kids.take i)).map cB) (.l 3),.lit (.slice none 0 0)]),(1,.cells (cEx x)),(0,.cells (Q25 (growL (e.take j)) (e.map cEx).length))],ou⟩) tabOk rfl rfl rfl rfl rfl rfl (Base.gs' _ 65 1 ((kidsT (growL (e.take j)) (x.kids.take i)).map cB) (.l 3) rfl hkl.symm) (.sl _ _) rfl ?_ ?_)
    ·rw[hkl];show (i+1) * 8<=_;omega
    ·rw[hkl];show i+1<=_;omega
   ·refine .step rfl (zHP (idxI tabOk rfl rfl rfl rfl rfl rfl rfl (by simp;omega))) ?_
    exact .step rfl (zHP (zLD rfl rfl rfl (Q5h htk))) .nil
   ·refine .step rfl (zHP (idxI tabOk rfl rfl rfl rfl rfl rfl rfl (by simp;omega))) ?_
    exact .step rfl (zHP (zLD rfl rfl rfl (Q5h htk))) .nil
   refine zM ?_
   refine cInv ⟨x.kids.length - (i+1),i+1,fun k=>if k=3 then 4 else k,by omega,⟨by omega,rfl⟩,LessR.of rfl zFS (by simp) ?_ rfl rfl hou⟩
   repeat' first|exact LoSub.nil|refine zlc ?_|refine zld ?_ ?_|rfl
   ·simp only[AObj.ren,List.length_append,hkl];rfl
   ·rw[hks];simp only[AObj.ren,renL,AC.ren,Qb1,Qfb];rw[List.map_append];rfl
  have hlt2:i=x.kids.length:=by simp at hb3;omega
  subst hlt2
  rw[List.take_length]
  refine zA ?_
  refine ACode.grow 2 4 117 2 rfl rfl ?_
  refine ACode.loopR hΓ (α:=Nat) (fun i=>[(54,.one (int i)),(53,.one (int (x.alts.map cAlt).length)),(52,.one (.sl 2 (x.alts.map cAlt))),(6,.one (.ptr (.l 2) 0)),(4,.one (int j)),(16,.one (int j)),(15,.one (int (e.map cEx).length)),(14,.one (.sl 5 (e.map cEx))),(3,.one (.arr (.l 0) 1 0 (e.map cEx).length (e.map cEx).length)),(0,.one (.sl 5 (e.map cEx)))])
   (fun i=>⟨5,[(4,.tok 117 2 i),(2,.cells [int x.op,int x.n,.sl 1 (x.binds.map cI),.gs 1 ((kidsT (growL (e.take j)) x.kids).map cB) (.l 3),.gs 2 ((x.alts.take i).map cAlt) (.l 4)]),(0,.cells (Q25 (growL (e.take j)) (e.map cEx).length))],ou⟩)
   (fun m i=>i<=x.alts.length/\m=x.alts.length - i) (a0:=0) (ρ:=id) ⟨by omega,rfl⟩ (LessR.of rfl zFS (by simp) ?_ rfl rfl hou) fun m i hi=>?_
  ·repeat' first|exact LoSub.nil|refine zlc ?_|refine zld ?_ ?_|rfl
   all_goals (simp[AObj.ren,renL,AC.ren];exact⟨rfl,rfl⟩)
  obtain⟨hil,rfl⟩:=hi
  refine zA ?_
  refine ACode.cond rfl (fun hb3=>?_) (fun hb3=>?_)
  ·have hlt2:i < x.alts.length:=by simpa using hb3
   obtain⟨a,ha⟩:=Q01 hlt2
   have hal:((x.alts.take i).map cAlt).length=i:=by simp;omega
   have hca:=Qdf (Γ:=Γ) a.binds (hxo.ab a (List.mem_of_getElem? ha))
   refine zA ?_
   refine zS (zIA rfl rfl rfl (by omega) (Q06 ha)) ?_
   refine zA ?_
   refine ACode.drawXH (va:=.one (.gs 2 ((x.alts.take i).map cAlt++[cAlt a]) (.l 6))) (σ1:=((((St.mk 5 [(4,.tok 117 2 i),(2,.cells [int x.op,int x.n,.sl 1 (x.binds.map cI),.gs 1 ((kidsT (growL (e.take j)) x.kids).map cB) (.l 3),.gs 2 ((x.alts.take i).map cAlt) (.l 4)]),(0,.cells (Q25 (growL (e.take j)) (e.map cEx).length))] ou).push (.cells (ti117.zero.map .lit))).set (.l 5) (.cells (cAlt a))).set (.l 4) .dead).push (.tok 117 2 ((x.alts.take i).map cAlt++[cAlt a]).length))
    tabOk 13 12 [(9,.one (.sl 1 (a.binds.map cI)))] follows (by kernel_rfl) rfl rfl rfl rfl rfl rfl rfl ?_ ?_ ?_ ?_
   ·refine HStep.plain rfl (AStep.append (s:=2) (es:=(x.alts.take i).map cAlt) (news:=[cAlt a]) (ti:=ti73) (σ:=(((St.mk 5 [(4,.tok 117 2 i),(2,.cells [int x.op,int x.n,.sl 1 (x.binds.map cI),.gs 1 ((kidsT (growL (e.take j)) x.kids).map cB) (.l 3),.gs 2 ((x.alts.take i).map cAlt) (.l 4)]),(0,.cells (Q25 (growL (e.take j)) (e.map cEx).length))] ou).push (.cells (ti117.zero.map .lit))).set (.l 5) (.cells (cAlt a)))) tabOk rfl rfl rfl rfl rfl rfl (Base.gs' _ 117 2 ((x.alts.take i).map cAlt) (.l 4) rfl hal.symm) (.sl _ _) rfl ?_ ?_)
    ·rw[hal];show (i+1) * 32<=_;omega
    ·rw[hal];show i+1<=_;omega
   ·exact .call hΓ hca hou (by simp) rfl rfl rfl rfl rfl rfl .nil
   ·exact .call hΓ hca hou (by simp) rfl rfl rfl rfl rfl rfl .nil
   refine zM ?_
   refine cInv ⟨x.alts.length - (i+1),i+1,fun k=>if k=4 then 6 else k,by omega,⟨by omega,rfl⟩,LessR.of rfl zFS (by simp) ?_ rfl rfl hou⟩
   repeat' first|exact LoSub.nil|refine zlc ?_|refine zld ?_ ?_|rfl
   ·simp only[AObj.ren,List.length_append,hal];rfl
   ·rw[Q2d ha];simp only[AObj.ren,renL,AC.ren,Qb1,Qfb,Q9x];rw[List.map_append];rfl
  have hlt2:i=x.alts.length:=by simp at hb3;omega
  subst hlt2
  rw[List.take_length]
  refine zA ?_
  refine zS (idxI tabOk rfl rfl rfl rfl rfl rfl rfl (by simp;omega)) ?_
  refine AOps.freeze1 (.l 2) 76 rfl rfl ?_
  refine AOps.wk 76 rfl (y:=.one (.box (cTr (Q2i (growL (e.take j)) x)))) (.one (Wk.box ?_)) ?_
  ·rw[Qft]
   exact .cons (.refl _) (.cons (.refl _) (.cons (.refl _) (.cons (.gsE (Q3x _).symm) (.cons (.gsE rfl) .nil))))
  refine AOps.storeOwn tabOk rfl rfl rfl rfl rfl rfl rfl rfl (by rw[Qdv (by simp[hgl];omega)];simp;omega) ?_
  have hst:=Qdt (ts:=growL (e.take j)) (n:=(e.map cEx).length) (by simp[hgl];omega) (Q2i (growL (e.take j)) x)
  rw[hgl,←Q20,←Q2d hx]at hst
  rw[hst]
  refine zM ?_
  exact cInv ⟨e.length - (j+1),j+1,id,by omega,⟨by omega,rfl⟩,LessR.of rfl zFS (by simp) zLO rfl rfl hou⟩
 ·have hlt:j=e.length:=by simp at hb2;omega
  subst hlt
  rw[List.take_length]
  obtain⟨N,hN⟩:∃N,e.length=N+1:=⟨e.length - 1,by have:=List.length_pos_iff.2 hne;omega⟩
  obtain⟨t,ht⟩:=Q01 (l:=growL e) (i:=N) (by rw[Q1a];omega)
  have hgt:grow e=t:=by unfold grow;rw[hN,Nat.add_sub_cancel,List.getD_eq_getElem?_getD,ht];rfl
  refine zM ?_
  refine AOps.wk 82 rfl (y:=.one (int (N:Nat))) (.ofEq (by congr 3;simp;omega)) ?_
  refine zS (idxI tabOk rfl rfl rfl rfl rfl rfl rfl (by simp;omega)) ?_
  refine zS (zLD rfl rfl rfl (Q5h ht)) ?_
  refine zA ?_
  refine APure.fin rfl (WkF.ofEq ?_) (by simp) hou rfl
  rw[hgt]
end Go.Proofs.YtkgjldchcbfpnaaGreatDoor
namespace Go.CoreX
theorem Q6p(t:Tr):∀(l:List Tr)(out:List Ex),Q04 out (l++[t])=(listT (Q04 out l).1 t,(Q04 out l).2++[((listT (Q04 out l).1 t).length:Int) - 1])
 |[],out=>by simp[Q04]
 |a::l,out=>by
  have:=Q6p t l (listT out a)
  simp only[List.cons_append,Q04,this]
mutual
theorem Qid:∀(t:Tr)(out:List Ex),out.length < (listT out t).length
 |.mk o n b k a,out=>by
  have:=Q53 k out
  simp only[listT,List.length_append,List.length_singleton];omega
theorem Q53:∀(l:List Tr)(out:List Ex),out.length<=(Q04 out l).1.length
 |[],out=>by simp[Q04]
 |t::l,out=>by
  have h1:=Qid t out
  have h2:=Q53 l (listT out t)
  simp only[Q04];omega
end
theorem Q5k:∀(l r:List Tr)(out:List Ex),(Q04 out (l++r)).1=(Q04 (Q04 out l).1 r).1
 |[],r,out=>by simp[Q04]
 |a::l,r,out=>by simp only[List.cons_append,Q04,Q5k l r]
theorem Q54:∀(l:List Tr)(out:List Ex),(Q04 out l).2.length=l.length
 |[],out=>by simp[Q04]
 |a::l,out=>by simp[Q04,Q54 l]
-- The lists of a tree are not too long.
mutual
def okT:Tr->Prop
 |.mk _ _ b k a=>b.length<=1048576/\k.length<=1048576/\a.length<=1048576/\((∀x∈a,x.binds.length<=1048576)/\b.length+(a.flatMap (·.binds)).length<=4194304)/\okTs k
def okTs:List Tr->Prop
 |[]=>True
 |t::l=>okT t/\okTs l
end
theorem Q65:∀{l:List Tr},okTs l↔∀t∈l,okT t
 |[]=>by simp[okTs]
 |t::l=>by simp[okTs,Q65 (l:=l)]
end Go.CoreX
namespace Go.Proofs.YtkgjldchcbfpnaaGreatDoor
open Go Go.Abs Go.CoreX
variable {Γ:List (Nat×List AC)}
def ouS (ou:Outer)(ko kt:Nat)(es:List (List AC)):Outer:=updO (updO ou ko (.cells [.gs 5 es (.o kt)])) kt (.tok 75 5 es.length)
theorem ouS_o{ou:Outer}{ko kt:Nat}(h:ko≠kt)(es:List (List AC)):ouS ou ko kt es ko=some (.cells [.gs 5 es (.o kt)]):=by
 unfold ouS;rw[Q05 _ (Ne.symm h),Q03]
theorem ouS_t(ou:Outer)(ko kt:Nat)(es:List (List AC)):ouS ou ko kt es kt=some (.tok 75 5 es.length):=by unfold ouS;rw[Q03]
theorem ouS_w{ou:Outer}{ko kt k:Nat}(h:k≠ko)(h2:k≠kt)(es:List (List AC)):ouS ou ko kt es k=ou k:=by
 unfold ouS;rw[Q05 _ (Ne.symm h2),Q05 _ (Ne.symm h)]
theorem Qce{ou:Outer}{ko kt:Nat}{es:List (List AC)}(h:OuOk ou)(he:idsS isO es):OuOk (ouS ou ko kt es):=by
 intro k o hk
 unfold ouS at hk
 by_cases e:kt=k
 ·subst e;rw[Q03]at hk;cases hk;trivial
 ·rw[Q05 _ e]at hk
  by_cases e2:ko=k
  ·subst e2;rw[Q03]at hk;cases hk;exact⟨⟨trivial,he⟩,trivial⟩
  ·rw[Q05 _ e2]at hk;exact h k o hk
end Go.Proofs.YtkgjldchcbfpnaaGreatDoor
namespace Go.Abs
inductive CedFr (θ:Id->Id)(fr:Fr):Fr->Prop
 |nil:CedFr θ fr []
 |cons {k:Nat}{x y:FV}{r:Fr}(h:Fr.get k fr=some y) (hw:y.sub θ=x) (hr:CedFr θ fr r):CedFr θ fr ((k,x)::r)
theorem CedFr.get{θ:Id->Id}{fr fr':Fr}(h:CedFr θ fr fr'):∀d x,Fr.get d fr'=some x->∃y,Fr.get d fr=some y/\WkF (y.sub θ) x:=by
 induction h with
 |nil=>intro d x h;cases h
 |@cons k x y r h hw hr ih=>
  intro d z hz
  simp only[Fr.get]at hz
  by_cases e:k=d
  ·subst e;simp at hz;subst hz;exact⟨y,h,WkF.ofEq hw⟩
  ·rw[Q08 e]at hz;exact ih d z hz
end Go.Abs
namespace Go.Proofs.YtkgjldchcbfpnaaGreatDoor
open Go Go.Abs Go.CoreX
variable {Γ:List (Nat×List AC)}
end Go.Proofs.YtkgjldchcbfpnaaGreatDoor
namespace Go.CoreX
def addB (β:Int->Int)(l:List Int):Int->Int:=fun k=>β k+l.count k
-- What occurs freely, by how often each is bound around.
mutual
def occB (β:Int->Int):Tr->List Int
 |.mk o n b k a=>(if o=0/\β n=0 then [n]else [])++occBs β o b a 0 k
def occBs (β:Int->Int)(o:Int)(b:List Int)(a:List Alt):Nat->List Tr->List Int
 |_,[]=>[]
 |i,t::ts=>occB (addB β (Q2f o b a i)) t++occBs β o b a (i+1) ts
end
theorem Q7p(β:Int->Int)(o:Int)(b:List Int)(a:List Alt)(t:Tr):∀(l:List Tr)(i:Nat),occBs β o b a i (l++[t])=occBs β o b a i l++occB (addB β (Q2f o b a (i+l.length:Nat))) t
 |[],i=>by simp[occBs]
 |x::l,i=>by
  simp only[List.cons_append,occBs,Q7p β o b a t l (i+1),List.append_assoc,List.length_cons]
  rw[show i+1+l.length=i+(l.length+1) by omega]
theorem mx_le(m:Int):∀l:List Int,m<=l.foldl mx m
 |[]=>by simp
 |d::l=>by
  have:=mx_le (mx m d) l
  have:m<=mx m d:=by unfold mx;split <;> omega
  simp only[List.foldl_cons];omega
theorem mx_mem:∀(l:List Int)(m d:Int),d∈l->d<=l.foldl mx m
 |x::l,m,d,h=>by
  simp only[List.foldl_cons]
  rcases List.mem_cons.1 h with rfl|h
  ·have h1:=mx_le (mx m d) l
   have:d<=mx m d:=by unfold mx;split <;> omega
   omega
  ·exact mx_mem l _ d h
theorem Qgy{o n:Int}{b:List Int}{ks:List Tr}{a:List Alt}{t:Tr}(h:t∈ks):Q28 t+1<=Q28 (.mk o n b ks a):=by
 simp only[Q28,Q5t]
 have:=mx_mem (ks.map Q28) 0 (Q28 t) (List.mem_map_of_mem h)
 omega
theorem Qae:∀t:Tr,1<=Q28 t
 |.mk o n b ks a=>by
  simp only[Q28]
  have:=mx_le 0 (Q76 ks)
  omega
end Go.CoreX
namespace Go.Proofs.YtkgjldchcbfpnaaGreatDoor
open Go Go.Abs Go.CoreX
variable {Γ:List (Nat×List AC)}
def BIs (β:Int->Int)(ck:Nat)(l:List (Nat×Int×Int)):Prop:=∃f,IMOk f ck l/\∀k,(f k).getD 0=β k
theorem BIs.put{β:Int->Int}{f:Int->Option Int}(hf:∀k,(f k).getD 0=β k)(n v:Int):∀k,(setF f n v k).getD 0=if n=k then v else β k:=fun k=>by
 unfold setF
 by_cases e:n=k
 ·rw[if_pos e,if_pos e];rfl
 ·rw[if_neg e,if_neg e];exact hf k
def ouB (cb:Nat)(lb:List (Nat×Int×Int))(co:Nat)(lo:List (Nat×Int×Unit)):Outer:=ouOf [.map cb (encI eN lb),.map co (encI eU lo)]
theorem Q6m(cb:Nat)(lb:List (Nat×Int×Int))(co:Nat)(lo:List (Nat×Int×Unit)):OuOk (ouB cb lb co lo):=by
 intro k o h
 match k,h with
 |0,h=>cases h;exact Qd0 _ _ _
 |1,h=>cases h;exact Qcz _ _ _
 |k+2,h=>cases h
theorem Q64(cb cb':Nat)(lb lb':List (Nat×Int×Int))(co:Nat)(lo:List (Nat×Int×Unit)):(fun j=>bif Nat.beq j 0 then some (AObj.map cb' (encI eN lb'))else ouB cb lb co lo j)=ouB cb' lb' co lo:=by
 funext j
 match j with
 |0=>rfl
 |1=>rfl
 |k+2=>rfl
theorem Qcf(cb:Nat)(lb:List (Nat×Int×Int))(co co':Nat)(lo lo':List (Nat×Int×Unit)):(fun j=>bif Nat.beq j 1 then some (AObj.map co' (encI eU lo'))else ouB cb lb co lo j)=ouB cb lb co' lo':=by
 funext j
 match j with
 |0=>rfl
 |1=>rfl
 |k+2=>rfl
def FreeOk (Γ:List (Nat×List AC))(t:Tr):Prop:=∀(β:Int->Int)(m:Int)(cb:Nat)(lb:List (Nat×Int×Int))(co:Nat)(lo:List (Nat×Int×Unit))(S:List Int),(∀k,0<=β k/\β k<=m)->m+Q28 t * 1048576<=4611686018427387904->BIs β cb lb->SetIs S co lo->
 AFn Tryz.prog Γ 83 [.one (.box (cTr t)),.one (.mp (.o 0)),.one (.mp (.o 1))] (ouB cb lb co lo) (fun r ou'=>r=.tup []/\∃cb' lb' co' lo',ou'=ouB cb' lb' co' lo'/\BIs β cb' lb'/\SetIs (S++occB β t) co' lo')
theorem Qea{o:Int}{b:List Int}{a:List Alt}{k:Int}(hb:b.length<=1048576)(ha:∀x∈a,x.binds.length<=1048576):(Q2f o b a k).length<=1048576:=by
 unfold Q2f
 split
 ·exact hb
 ·split
  ·rename_i h1 h2
   obtain⟨x,hx⟩:=Q01 (l:=a) (i:=(k - 1).toNat) (by omega)
   rw[List.getD_eq_getElem?_getD,hx]
   exact ha x (List.mem_of_getElem? hx)
  ·simp
theorem Qh9{β:Int->Int}{l:List Int}{j:Nat}{n:Int}(h:l[j]?=some n)(k:Int):addB β (l.take (j+1)) k=if n=k then addB β (l.take j) n+1 else addB β (l.take j) k:=by
 unfold addB
 rw[Q2d h,List.count_append]
 by_cases e:n=k
 ·subst e;simp;omega
 ·rw[if_neg e]
  have:[n].count k=0:=by simp[List.count_cons,e]
  omega
theorem Qha{β:Int->Int}{l:List Int}{j:Nat}{n:Int}(h:l[j]?=some n)(k:Int):addB β (l.drop (j+1)) k=if n=k then addB β (l.drop j) n - 1 else addB β (l.drop j) k:=by
 have hd:l.drop j=n::l.drop (j+1):=by
  obtain⟨h1,h2⟩:=List.getElem?_eq_some_iff.1 h
  rw[List.drop_eq_getElem_cons h1,h2]
 unfold addB
 rw[hd,List.count_cons,List.count_cons]
 by_cases e:n=k
 ·subst e;simp;omega
 ·rw[if_neg e]
  have:(n==k)=false:=by simpa using e
  rw[this];simp
theorem Qbo{β:Int->Int}{l:List Int}{m:Int}(h:∀k,0<=β k/\β k<=m)(hl:l.length<=1048576)(k:Int):0<=addB β l k/\addB β l k<=m+1048576:=by
 have h1:=h k
 have h2:=List.count_le_length (a:=k) (l:=l)
 unfold addB;omega
set_option maxHeartbeats 1000000 in
theorem Qgs(hΓ:∀g cs,(g,cs)∈Γ->idsL isO cs):∀t:Tr,okT t->FreeOk Γ t
 |.mk o n b ks a,hok=>by
  obtain⟨hb,hk,ha,⟨hab,_⟩,hks⟩:=hok
  have ih:∀t∈ks,FreeOk Γ t:=fun t ht=>Qgs hΓ t (Q65.1 hks t ht)
  intro β m cb lb co lo S hβ hd ⟨f,hf,hfb⟩ ⟨g,hg,hgs⟩
  refine AFn.walk 73 tabOk Tryz.func83 rfl (by kernel_rfl) rfl rfl fun hou=>?_
  iterate 1 (first|((with_reducible refine oj ?_);refine zau ?_)|(with_reducible refine zst ?_)|((with_reducible refine Q0t ?_ ?_);rfl)|(with_reducible refine ok ?_;first|refine ACode.condT rfl ?_|refine ACode.condF rfl ?_))
  refine ACode.cutR hΓ (α:=Nat×List (Nat×Int×Unit)) (fun _=>[(2,.one (.mp (.o 1))),(1,.one (.mp (.o 0))),(0,.one (.box (cTr (.mk o n b ks a))))])
   (fun c => ⟨0, [], ouB cb lb c.1 c.2⟩) (fun c => SetIs (S ++ if o = 0 /\ β n = 0 then [n] else []) c.1 c.2) ?_ fun c hc => ?_
  ·by_cases ho:o=0
   ·subst ho
    repeat' first|refine zN ?_|(with_reducible refine oj ?_;refine AOps.splitS rfl rfl rfl rfl (fun hb=>?_) (fun hb=>?_))|(with_reducible refine ok ?_;first|refine ACode.condS rfl (fun hb=>?_) (fun hb=>?_)|refine ACode.cond rfl (fun hb=>?_) (fun hb=>?_))
    all_goals first
     |(exfalso;simp at hb;done)
     |skip
    refine zS (AStep.lookI eN (cm:=false) (v:=.one (int (β n))) rfl Tryz.underlying91 Tryz.underlying3 rfl rfl rfl (by kernel_rfl) zeroN hf (by simp only[Tr.n_mk];rw[←hfb n];cases f n <;> rfl)) ?_
    refine zA ?_
    refine ACode.cond rfl (fun hb=>?_) (fun hb=>?_)
    ·have h0:β n=0:=by simpa using hb
     refine zA ?_
     refine zS (AStep.buildU rfl Tryz.underlying150 (by kernel_rfl)) ?_
     refine AOps.putI eU (v:=()) rfl rfl rfl Tryz.underlying149 Tryz.underlying3 rfl rfl rfl rfl hg fun ck' l' hf'=>?_
     refine zA ?_
     exact cInv ⟨(ck',l'),id,⟨_,hf',by rw[if_pos ⟨rfl,h0⟩];exact Qay hgs n⟩,LessR.of rfl zFS (by simp) .nil rfl (Qcf cb lb co ck' lo l').symm (by rw[show (St.set ⟨0,[],ouB cb lb co lo⟩ (.o 1) (.map ck' (encI eU l'))).ou=ouB cb lb ck' l' from Qcf cb lb co ck' lo l'];exact Q6m _ _ _ _)⟩
    ·have h0:¬β n=0:=by simpa using hb
     refine zA ?_
     exact cInv ⟨(co,lo),id,⟨g,hg,by rw[if_neg (fun h=>h0 h.2)];simpa using hgs⟩,LessR.of rfl zFS (by simp) .nil rfl rfl hou⟩
   ·have hcd:((Tr.mk o n b ks a).op==0)=false:=by simpa using ho
    repeat' first|refine zN ?_|(with_reducible refine oj ?_;refine AOps.splitS rfl rfl rfl rfl (fun hb=>?_) (fun hb=>?_))|(with_reducible refine ok ?_;first|refine ACode.condS rfl (fun hb=>?_) (fun hb=>?_)|refine ACode.cond rfl (fun hb=>?_) (fun hb=>?_))
    all_goals first
     |(exfalso;rw[hcd]at hb;cases hb;done)
     |exact cInv ⟨(co,lo),id,⟨g,hg,by rw[if_neg (fun h=>ho h.1)];simpa using hgs⟩,LessR.of rfl zFS (by simp) .nil rfl rfl hou⟩
  ·obtain⟨co,lo⟩:=c
   simp only at hc
   clear hgs hg g hou
   have hou:OuOk (ouB cb lb co lo):=Q6m _ _ _ _
   refine zA ?_
   refine ACode.loopR hΓ (α:=Nat×(Nat×List (Nat×Int×Int))×(Nat×List (Nat×Int×Unit))) (fun c=>[(38,.one (int c.1)),(37,.one (int (Q1j ks).length)),(36,.one (.sl 1 (Q1j ks))),(2,.one (.mp (.o 1))),(1,.one (.mp (.o 0))),(0,.one (.box (cTr (.mk o n b ks a))))])
    (fun c=>⟨0,[],ouB c.2.1.1 c.2.1.2 c.2.2.1 c.2.2.2⟩) (fun m c=>c.1<=ks.length/\BIs β c.2.1.1 c.2.1.2/\SetIs (S++(if o=0/\β n=0 then [n]else [])++occBs β o b a 0 (ks.take c.1)) c.2.2.1 c.2.2.2/\m=ks.length - c.1)
    (a0:=(0,(cb,lb),(co,lo))) (ρ:=id) ⟨by omega,⟨f,hf,hfb⟩,by simpa[occBs]using hc,rfl⟩ (LessR.of rfl zFS (by simp) .nil rfl rfl hou) fun m' c hi=>?_
   clear hc hf hfb f hou
   obtain⟨i,⟨cb,lb⟩,co,lo⟩:=c
   obtain⟨hil,hB,hS,rfl⟩:=hi
   simp only at hil hB hS
   have hou:OuOk (ouB cb lb co lo):=Q6m _ _ _ _
   refine zA ?_
   refine ACode.cond rfl (fun hb2=>?_) (fun hb2=>?_)
   ·have hlt:i < ks.length:=by simpa using hb2
    obtain⟨t,ht⟩:=Q01 hlt
    have htm:=List.mem_of_getElem? ht
    have hbn:=Qja hΓ (.mk o n b ks a) (i:Int) (by omega) ha
    have hll:=Qea (o:=o) (k:=(i:Int)) hb hab
    have hsn:=Q7p β o b a t (ks.take i) 0
    rw[←Q2d ht]at hsn
    have hmin:(ks.take i).length=i:=by simp;omega
    rw[hmin,Nat.zero_add]at hsn
    simp only[Tr.op_mk,Tr.binds_mk,Tr.alts_mk]at hbn
    generalize Q2f o b a (i:Int)=l at hbn hll hsn
    have hdk:=Qgy (o:=o) (n:=n) (b:=b) (a:=a) htm
    refine zA ?_
    refine zS (zIA rfl rfl rfl (by omega) (Q21 ht)) ?_
    refine zA ?_
    refine zca hΓ hbn hou ?_
    refine zA ?_
    refine ACode.loopR hΓ (α:=Nat×Nat×List (Nat×Int×Int)) (fun c=>[(48,.one (int c.1)),(47,.one (int (l.map cI).length)),(46,.one (.sl 1 (l.map cI))),(8,.one (.sl 1 (l.map cI))),(7,.one (.box (cTr t))),(38,.one (int i)),(37,.one (int (Q1j ks).length)),(36,.one (.sl 1 (Q1j ks))),(2,.one (.mp (.o 1))),(1,.one (.mp (.o 0))),(0,.one (.box (cTr (.mk o n b ks a))))])
     (fun c=>⟨0,[],ouB c.2.1 c.2.2 co lo⟩) (fun m c=>c.1<=l.length/\BIs (addB β (l.take c.1)) c.2.1 c.2.2/\m=l.length - c.1) (a0:=(0,cb,lb)) (ρ:=id) ⟨by omega,by simpa[BIs,addB]using hB,rfl⟩ (LessR.of rfl zFS (by simp) .nil rfl rfl hou) fun m' c hj=>?_
    clear hB hou
    obtain⟨j,cb,lb⟩:=c
    obtain⟨hjl,⟨f,hf,hfb⟩,rfl⟩:=hj
    simp only at hjl hf hfb
    have hou:OuOk (ouB cb lb co lo):=Q6m _ _ _ _
    refine zA ?_
    refine ACode.cond rfl (fun hb3=>?_) (fun hb3=>?_)
    ·have hlt2:j < l.length:=by simpa using hb3
     obtain⟨q,hq⟩:=Q01 hlt2
     have hv:=Qbo (l:=l.take j) hβ (by simp;omega) q
     have hdp:=Qae t
     refine zA ?_
     refine zS (zIA rfl rfl rfl (by omega) (Q06 hq)) ?_
     refine zA ?_
     refine zS (AStep.lookI eN (cm:=false) (v:=.one (int (addB β (l.take j) q))) rfl Tryz.underlying91 Tryz.underlying3 rfl rfl rfl (by kernel_rfl) zeroN hf (by rw[←hfb q];cases f q <;> rfl)) ?_
     refine zS (AStep.arith rfl rfl rfl (.inl ⟨rfl,rfl⟩) zI) ?_
     refine AOps.putI eN (v:=addB β (l.take j) q+1) rfl rfl rfl Tryz.underlying91 Tryz.underlying3 rfl rfl rfl rfl hf fun ck' l' hf'=>?_
     refine zM ?_
     refine cInv ⟨l.length - (j+1),(j+1,ck',l'),id,by omega,⟨by omega,⟨_,hf',fun k=>?_⟩,rfl⟩,LessR.of rfl zFS (by simp) .nil rfl (Q64 cb ck' lb l' co lo).symm (by rw[show (St.set ⟨0,[],ouB cb lb co lo⟩ (.o 0) (.map ck' (encI eN l'))).ou=ouB ck' l' co lo from Q64 cb ck' lb l' co lo];exact Q6m _ _ _ _)⟩
     rw[BIs.put hfb,Qh9 hq]
    have hlt2:j=l.length:=by simp at hb3;omega
    subst hlt2
    rw[List.take_length]at hfb
    have hcall:=ih t htm (addB β l) (m+1048576) cb lb co lo (S++(if o=0/\β n=0 then [n]else [])++occBs β o b a 0 (ks.take i)) (Qbo hβ hll) (by omega) ⟨f,hf,hfb⟩ hS
    clear hf hfb f
    refine zA ?_
    refine AOps.call1 hΓ rfl rfl rfl rfl rfl rfl rfl (by simp) hou hcall fun r ou' hq hids hou'=>?_
    obtain⟨rfl,cb,lb,co,lo,rfl,hB,hS2⟩:=hq
    rw[List.append_assoc,←hsn]at hS2
    refine zA ?_
    refine ACode.loopR hΓ (α:=Nat×Nat×List (Nat×Int×Int)) (fun c=>[(63,.one (int c.1)),(62,.one (int (l.map cI).length)),(61,.one (.sl 1 (l.map cI))),(38,.one (int i)),(37,.one (int (Q1j ks).length)),(36,.one (.sl 1 (Q1j ks))),(2,.one (.mp (.o 1))),(1,.one (.mp (.o 0))),(0,.one (.box (cTr (.mk o n b ks a))))])
     (fun c=>⟨0,[],ouB c.2.1 c.2.2 co lo⟩) (fun m c=>c.1<=l.length/\BIs (addB β (l.drop c.1)) c.2.1 c.2.2/\m=l.length - c.1) (a0:=(0,cb,lb)) (ρ:=id) ⟨by omega,by simpa using hB,rfl⟩ (LessR.of rfl zFS (by simp) .nil rfl rfl hou') fun m' c hj=>?_
    clear hB hou hou'
    obtain⟨j,cb,lb⟩:=c
    obtain⟨hjl,⟨f,hf,hfb⟩,rfl⟩:=hj
    simp only at hjl hf hfb
    have hou:OuOk (ouB cb lb co lo):=Q6m _ _ _ _
    refine zA ?_
    refine ACode.cond rfl (fun hb4=>?_) (fun hb4=>?_)
    ·have hlt2:j < l.length:=by simpa using hb4
     obtain⟨q,hq⟩:=Q01 hlt2
     have hv:=Qbo (l:=l.drop j) hβ (by simp;omega) q
     have hdp:=Qae t
     refine zA ?_
     refine zS (zIA rfl rfl rfl (by omega) (Q06 hq)) ?_
     refine zA ?_
     refine zS (AStep.lookI eN (cm:=false) (v:=.one (int (addB β (l.drop j) q))) rfl Tryz.underlying91 Tryz.underlying3 rfl rfl rfl (by kernel_rfl) zeroN hf (by rw[←hfb q];cases f q <;> rfl)) ?_
     refine zS (AStep.arith rfl rfl rfl (.inr (.inl ⟨rfl,rfl⟩)) zI) ?_
     refine AOps.putI eN (v:=addB β (l.drop j) q - 1) rfl rfl rfl Tryz.underlying91 Tryz.underlying3 rfl rfl rfl rfl hf fun ck' l' hf'=>?_
     refine zM ?_
     refine cInv ⟨l.length - (j+1),(j+1,ck',l'),id,by omega,⟨by omega,⟨_,hf',fun k=>?_⟩,rfl⟩,LessR.of rfl zFS (by simp) .nil rfl (Q64 cb ck' lb l' co lo).symm (by rw[show (St.set ⟨0,[],ouB cb lb co lo⟩ (.o 0) (.map ck' (encI eN l'))).ou=ouB ck' l' co lo from Q64 cb ck' lb l' co lo];exact Q6m _ _ _ _)⟩
     rw[BIs.put hfb,Qha hq]
    ·have hlt2:j=l.length:=by simp at hb4;omega
     subst hlt2
     rw[List.drop_length]at hfb
     refine zM ?_
     exact cInv ⟨ks.length - (i+1),(i+1,(cb,lb),(co,lo)),id,by omega,⟨by omega,⟨f,hf,fun k=>by rw[hfb k];simp[addB]⟩,hS2,rfl⟩,LessR.of rfl zFS (by simp) .nil rfl rfl hou⟩
   ·have hlt:i=ks.length:=by simp at hb2;omega
    subst hlt
    rw[List.take_length,List.append_assoc]at hS
    refine zA ?_
    exact AFn.fin' rfl (WkF.refl _) (by simp) hou ⟨rfl,cb,lb,co,lo,rfl,hB,by simpa only [occB]using hS⟩
end Go.Proofs.YtkgjldchcbfpnaaGreatDoor
namespace Go.CoreX
theorem Q4m(n k:Int):∀l:List Int,k∈Q3u n l↔k=n∨k∈l
 | [] => by simp [Q3u]
 |m::l=>by
  simp only[Q3u]
  split
  ·simp
  ·split
   ·rename_i h1 h2
    subst h2
    simp
   ·simp only[List.mem_cons,Q4m n k l]
    constructor
    ·rintro (h|h|h) <;> simp[h]
    ·rintro (h|h|h) <;> simp[h]
theorem Q4g(n:Int):∀l:List Int,l.Pairwise (· < ·)->(Q3u n l).Pairwise (· < ·)
 | [], _ => by simp [Q3u]
 |m::l,h=>by
  simp only[List.pairwise_cons]at h
  simp only[Q3u]
  split
  ·rename_i h1
   simp only[List.pairwise_cons,List.mem_cons,forall_eq_or_imp]
   exact⟨⟨h1,fun a ha=>by have:=h.1 a ha;omega⟩,h.1,h.2⟩
  ·split
   ·simp only[List.pairwise_cons];exact h
   ·rename_i h1 h2
    simp only[List.pairwise_cons]
    refine⟨fun a ha=>?_,Q4g n l h.2⟩
    rcases (Q4m n a l).1 ha with rfl|ha
    ·omega
    ·exact h.1 a ha
theorem Q4u(k:Int):∀l:List Int,k∈sortS l↔k∈l
 |[]=>by simp[sortS]
 |n::l=>by
  have ih:=Q4u k l
  unfold sortS at ih ⊢
  rw[List.foldr_cons,Q4m,ih,List.mem_cons]
theorem Q3p:∀l:List Int,(sortS l).Pairwise (· < ·)
 |[]=>by simp[sortS]
 |n::l=>by
  have ih:=Q3p l
  unfold sortS at ih ⊢
  rw[List.foldr_cons]
  exact Q4g n _ ih
theorem Q4t:∀{l r:List Int},l.Pairwise (· < ·)->r.Pairwise (· < ·)->(∀k,k∈l↔k∈r)->l=r
 | [], [], _, _, _ => rfl
 | [], b :: r, _, _, h => by have := (h b).2 (by simp); simp at this
 |a::l,[],_,_,h=>by have:=(h a).1 (by simp);simp at this
 |a::l,b::r,hl,hr,h=>by
  simp only[List.pairwise_cons]at hl hr
  have hab:a=b:=by
   have h1:=(h a).1 (by simp)
   have h2:=(h b).2 (by simp)
   rcases List.mem_cons.1 h1 with h1|h1
   ·exact h1
   ·rcases List.mem_cons.1 h2 with h2|h2
    ·exact h2.symm
    ·have:=hr.1 a h1
     have:=hl.1 b h2
     omega
  subst hab
  congr 1
  refine Q4t hl.2 hr.2 fun k=>⟨fun hk=>?_,fun hk=>?_⟩
  ·rcases List.mem_cons.1 ((h k).1 (List.mem_cons_of_mem _ hk))with e|e
   ·have:=hl.1 k hk;omega
   ·exact e
  ·rcases List.mem_cons.1 ((h k).2 (List.mem_cons_of_mem _ hk))with e|e
   ·have:=hr.1 k hk;omega
   ·exact e
theorem sort_eq{keys m:List Int}(hn:keys.Nodup)(h:∀k,k∈keys↔k∈m):(keys.mergeSort fun x y=>decide (x<=y))=sortS m:=by
 have hp:=List.mergeSort_perm keys (fun x y:Int=>decide (x<=y))
 have hs:(keys.mergeSort fun x y=>decide (x<=y)).Pairwise (fun x y=>decide (x<=y)=true):=List.pairwise_mergeSort (fun a b c h1 h2=>by simp only[decide_eq_true_eq]at *;omega) (fun a b=>by simp only[Bool.or_eq_true,decide_eq_true_eq];omega) keys
 have hd:(keys.mergeSort fun x y=>decide (x<=y)).Nodup:=hp.nodup_iff.2 hn
 refine Q4t ?_ (Q3p m) fun k=>?_
 ·have:=hs.and hd
  refine this.imp fun {a b} hab=>?_
  have h1:=of_decide_eq_true hab.1
  have h2:=hab.2
  omega
 ·rw[Q4u,←h k];exact hp.mem_iff
mutual
theorem occ_eq:∀(t:Tr)(sc:List Int)(β:Int->Int),(∀k,β k=0↔sc.contains k=false)->(∀k,0<=β k)->occT sc t=occB β t
 |.mk o n b k a,sc,β,h,h0=>by
  simp only[occT,occB]
  rw[Qfr k sc β o b a 0 h h0]
  congr 1
  by_cases e:o=0/\β n=0
  ·rw[if_pos e,if_pos ⟨e.1,(h n).1 e.2⟩]
  ·rw[if_neg e,if_neg (fun h2=>e ⟨h2.1,(h n).2 h2.2⟩)]
theorem Qfr:∀(l:List Tr)(sc:List Int)(β:Int->Int)(o:Int)(b:List Int)(a:List Alt)(i:Nat),(∀k,β k=0↔sc.contains k=false)->(∀k,0<=β k)->occTs sc o b a i l=occBs β o b a i l
 | [], _, _, _, _, _, _, _, _ => by simp [occTs, occBs]
 |t::l,sc,β,o,b,a,i,h,h0=>by
  simp only[occTs,occBs]
  rw[Qfr l sc β o b a (i+1) h h0,occ_eq t (Q2f o b a i++sc) (addB β (Q2f o b a i)) (fun k=>?_) (fun k=>?_)]
  ·unfold addB
   have h1:=h k
   have h2:=h0 k
   have h3:(Q2f o b a i).count k=0↔(Q2f o b a i).contains k=false:=by
    rw[List.count_eq_zero];simp
   simp only[List.contains_eq_mem,List.mem_append,decide_eq_false_iff_not,not_or]at *
   constructor
   ·intro h4
    exact⟨h3.1 (by omega),h1.1 (by omega)⟩
   ·rintro⟨h4,h5⟩
    have:=h3.2 h4
    have:=h1.2 h5
    omega
  ·unfold addB
   have:=h0 k
   omega
end
theorem Q70(t:Tr):Q2j t=sortS (occB (fun _=>0) t):=by
 unfold Q2j
 rw[occ_eq t [] (fun _=>0) (fun k=>by simp) (fun k=>by simp)]
end Go.CoreX
namespace Go.CoreX
theorem Q8s{α:Type} [DecidableEq α]:∀{l m:List α},l.Nodup->(∀x∈l,x∈m)->l.length<=m.length
 |[],m,_,_=>by simp
 |a::l,m,hn,h=>by
  simp only[List.nodup_cons]at hn
  have ha:=h a (by simp)
  have:=Q8s (l:=l) (m:=m.erase a) hn.2 fun x hx=>by
   have hne:x≠a:=fun e=>hn.1 (e▸hx)
   exact (List.mem_erase_of_ne hne).2 (h x (by simp[hx]))
  rw[List.length_erase_of_mem ha]at this
  have:=List.length_pos_of_mem ha
  simp only[List.length_cons];omega
mutual
theorem Q8r:∀(t:Tr)(β:Int->Int)(out:List Ex),(occB β t).length+out.length<=(listT out t).length
 |.mk o n b k a,β,out=>by
  have:=Q9z k β o b a 0 out
  simp only[occB,listT,List.length_append,List.length_singleton]
  split <;> simp <;> omega
theorem Q9z:∀(l:List Tr)(β:Int->Int)(o:Int)(b:List Int)(a:List Alt)(i:Nat)(out:List Ex),(occBs β o b a i l).length+out.length<=(Q04 out l).1.length
 |[],_,_,_,_,_,out=>by simp[occBs,Q04]
 |t::l,β,o,b,a,i,out=>by
  have h1:=Q8r t (addB β (Q2f o b a i)) out
  have h2:=Q9z l β o b a (i+1) (listT out t)
  simp only[occBs,Q04,List.length_append];omega
end
end Go.CoreX
namespace Go.Proofs.YtkgjldchcbfpnaaGreatDoor
open Go Go.Abs Go.CoreX Go.Sort
variable {Γ:List (Nat×List AC)}
def SortOk:Prop:=∀(blk off cap:Nat)(zs:List Int)(w:World),Holds (Value.int .i64) w blk off zs.toArray->blk < w.heap.size->zs.length < 4611686018427387904->Calls Tryz.prog 84 #[.slice (some ⟨blk,off,none⟩) zs.length cap] w fun e w'=>
 e=.returned (.tuple #[])/\∃n os,w'=grow (putRow (Value.int .i64) (Sort.ahead w n) blk off (zs.mergeSort fun x y=>decide (x<=y)).toArray) os
def Qhc:Prop:=∀w:World,Calls Tryz.prog 84 #[.slice none 0 0] w fun e w'=>e=.returned (.tuple #[])/\w'=w
theorem Q7k(us:Array Value)(w:World):(callFunc 84 us).run Tryz.prog w=.ok (.enter 84 us) w:=by
 have h1:Tryz.prog.funcs[84]?=some Tryz.f84:=Tryz.func84
 simp[callFunc,h1]
 rfl
def leftM (l:List (Nat×Int×Unit))(seen:List Nat):Nat:=(l.filter fun x=>decide (x.1∉seen)).length
theorem Q7s{l:List (Nat×Int×Unit)}{seen:List Nat}{x:Nat×Int×Unit}(hx:x∈l)(hb:x.1∉seen):leftM l (seen++[x.1]) < leftM l seen:=by
 unfold leftM
 induction l with
 |nil=>cases hx
 |cons y l ih=>
  have hmono:∀l:List (Nat×Int×Unit),(l.filter fun z=>decide (z.1∉seen++[x.1])).length<=(l.filter fun z=>decide (z.1∉seen)).length:=fun l=>by
   induction l with
   |nil=>simp
   |cons z l ih=>
    simp only[List.filter_cons]
    split <;> split <;> simp_all <;> omega
  simp only[List.filter_cons]
  rcases List.mem_cons.1 hx with rfl|hx
  ·have:=hmono l
   rw[if_neg (by simp),if_pos (by simpa using hb)]
   simp only[List.length_cons];omega
  ·have:=ih hx
   split <;> split <;> simp_all <;> omega
theorem pair_of{l:List (Nat×Int×Unit)}(hk:(l.map (·.2.1)).Nodup){x y:Nat×Int×Unit}(hx:x∈l)(hy:y∈l)(h:x.2.1=y.2.1):x=y:=by
 induction l with
 |nil=>cases hx
 |cons z l ih=>
  simp only[List.map_cons,List.nodup_cons]at hk
  rcases List.mem_cons.1 hx with e1|h1
  ·rcases List.mem_cons.1 hy with e2|h2
   ·rw[e1,e2]
   ·exact absurd (List.mem_map.2 ⟨y,h2,by rw[←h,e1]⟩:z.2.1∈l.map (·.2.1)) hk.1
  ·rcases List.mem_cons.1 hy with e2|h2
   ·exact absurd (List.mem_map.2 ⟨x,h1,by rw[h,e2]⟩:z.2.1∈l.map (·.2.1)) hk.1
   ·exact ih hk.2 h1 h2
theorem Q7v{l zs:List (Nat×Int×Unit)}(hk:(l.map (·.2.1)).Nodup):∀{zs:List (Nat×Int×Unit)},(∀x∈zs,x∈l)->(zs.map (·.1)).Nodup->(zs.map (·.2.1)).Nodup
 |[],_,_=>by simp
 |x::zs,h,hn=>by
  simp only[List.map_cons,List.nodup_cons]at hn ⊢
  refine⟨fun hm=>?_,Q7v (zs:=zs) hk (fun y hy=>h y (by simp[hy])) hn.2⟩
  obtain⟨y,hy,e⟩:=List.mem_map.1 hm
  have:=pair_of hk (h x (by simp)) (h y (by simp[hy])) e.symm
  exact hn.1 (List.mem_map.2 ⟨y,hy,by rw[this]⟩)
@[simp] theorem ids_vecI (p : Abs.Id -> Prop) (l : List Int) (cap : Nat) : idsL p (vec 1 (l.map cI) cap) := by
 unfold vec
 have e:(l.map cI).flatten=l.map int:=by
  induction l with
  |nil=>rfl
  |cons n l ih=>simp only[List.map_cons,List.flatten_cons,ih];rfl
 rw[e]
 refine Q66 (Q91 p l) ?_
 generalize (cap - (l.map cI).length) * 1=q
 induction q with
 |zero=>simp
 |succ q ih=>rw[List.replicate_succ];exact⟨trivial,ih⟩
@[simp] theorem Qhp (θ:Abs.Id->Abs.Id) (ck:Nat) (l:List (Nat×Int×Unit)):AObj.sub θ (.map ck (encI eU l))=.map ck (encI eU l):=by
 simp[AObj.sub,encI,eU,FV.sub,subL,Function.comp_def]
theorem Qad{β:Type}{enc:β->FV}{f:Int->Option β}{ck:Nat}{l:List (Nat×Int×β)}(h:IMOk f ck l):∀x∈encI enc l,x.1 < ck:=fun x hx=>by
 simp only[encI,List.mem_map]at hx
 obtain⟨y,hy,rfl⟩:=hx
 exact h.born y hy
theorem Qd5{β:Type}{enc:β->FV}{l:List (Nat×Int×β)}:∀x∈encI enc l,x.2.1.oneCell'=true:=fun x hx=>by
 simp only[encI,List.mem_map]at hx
 obtain⟨y,hy,rfl⟩:=hx
 rfl
theorem Q75{β:Type}{enc:β->FV}:∀{l:List (Nat×Int×β)}{x:Nat×Int×β},(l.map (·.1)).Nodup->x∈l->(encI enc l).find? (fun y=>y.1==x.1)=some (x.1,.int .i64 x.2.1,enc x.2.2)
 |y::l,x,hn,hx=>by
  simp only[List.map_cons,List.nodup_cons]at hn
  rcases List.mem_cons.1 hx with rfl|h
  ·simp[encI]
  ·have hne:y.1≠x.1:=fun e=>hn.1 (List.mem_map.2 ⟨_,h,e.symm⟩)
   have:=Q75 (enc:=enc) hn.2 h
   simp only[encI,List.map_cons,List.find?_cons]at this ⊢
   rw[beq_eq_false_iff_ne.2 hne]
   exact this
theorem Qh6{l:List (Nat×Int×Unit)}(hk:(l.map (·.1)).Nodup){x y:Nat×Int×Unit}(hx:x∈l)(hy:y∈l)(h:x.1=y.1):x=y:=by
 induction l with
 |nil=>cases hx
 |cons z l ih=>
  simp only[List.map_cons,List.nodup_cons]at hk
  rcases List.mem_cons.1 hx with e1|h1
  ·rcases List.mem_cons.1 hy with e2|h2
   ·rw[e1,e2]
   ·exact absurd (List.mem_map.2 ⟨y,h2,by rw[←h,e1]⟩:z.1∈l.map (·.1)) hk.1
  ·rcases List.mem_cons.1 hy with e2|h2
   ·exact absurd (List.mem_map.2 ⟨x,h1,by rw[h,e2]⟩:z.1∈l.map (·.1)) hk.1
   ·exact ih hk.2 h1 h2
theorem Qcv{f:Int->Option Unit}{ck:Nat}{l:List (Nat×Int×Unit)}(h:IMOk f ck l)(k:Int):(f k).isSome=true↔∃x∈l,x.2.1=k:=by
 rw[←h.look k]
 cases hf:l.find? (fun x=>x.2.1==k) with
 |none=>
  simp only[Option.map_none,Option.isSome_none,Bool.false_eq_true,false_iff]
  rintro⟨x,hx,e⟩
  have:=List.find?_eq_none.1 hf x hx
  simp[e]at this
 |some x=>
  simp only[Option.map_some,Option.isSome_some,true_iff]
  have h1:=List.find?_some hf
  exact⟨x,List.mem_of_find?_eq_some hf,by simpa using h1⟩
def keyL (zs:List (Nat×Int×Unit)):List Int:=zs.map (·.2.1)
def bornL (zs:List (Nat×Int×Unit)):List Nat:=zs.map (·.1)
set_option maxHeartbeats 1000000 in
theorem Qhf(hΓ:∀g cs,(g,cs)∈Γ->idsL isO cs)(hΓF:∀g cs,(g,cs)∈Γ->idsL (fun _=>False) cs)(hs:SortOk)(hn:Qhc)(t:Tr)(ht:okT t)(hd:Q28 t<=1048576)(hsz:(listT [] t).length<=1048576):
  APure Tryz.prog Γ 47 [.one (.box (cTr t))] (.one (.sl 1 ((Q2j t).map cI))):=by
 intro ou
 refine AFn.walk 24 tabOk Tryz.func47 rfl (by kernel_rfl) rfl rfl fun hou=>?_
 refine zA ?_
 refine zS (AStep.makeMap rfl) ?_
 refine zA ?_
 refine zS (AStep.makeMap rfl) ?_
 refine zA ?_
 refine AOps.callR [.l 1,.l 0] [.one (.box (cTr t)),.one (.mp (.o 0)),.one (.mp (.o 1))] [.map 0 (encI eN []),.map 0 (encI eU [])] hΓF rfl rfl rfl rfl rfl rfl ?_ ?_ ?_ ?_ ?_ (Qgs hΓ t ht (fun _=>0) 0 0 [] 0 [] [] (fun k=>by simp) (by omega) ⟨_,IMOk.nil,fun k=>rfl⟩ SetIs.nil) ?_
 ·simp[subF,FV.sub,AC.sub,nameOf]
  exact⟨(Q1e _ _ (by simp)).symm,rfl⟩
 ·simp[inO]
 ·simp
 ·exact⟨rfl,rfl,trivial⟩
 ·simp[inO]
 intro r ou' hq
 obtain⟨rfl,cb,lb,co,lo,rfl,hB,g,hg,hgs⟩:=hq
 rw[List.nil_append]at hgs
 refine⟨[.map cb (encI eN lb),.map co (encI eU lo)],rfl,rfl,by simp[inO],by simp,?_⟩
 refine zA ?_
 refine zS (AStep.rangeMap rfl Tryz.underlying149 rfl rfl) ?_
 refine zA ?_
 refine ACode.loopR hΓ (α:=List (Nat×Int×Unit)×Option Nat) (fun a=>[(12,.one (.ptr (.l 2) 0)),(4,match a.2 with|none=>.one (.lit (.slice none 0 0))|some cap=>.one (.arr (.l 3) 1 0 ((keyL a.1).map cI).length cap))])
  (fun a=>match a.2 with|none=>⟨3,[(2,.iter (.l 0) co (bornL a.1) co),(0,.map co (encI eU lo))],ou⟩|some cap=>⟨4,[(3,.cells (vec 1 ((keyL a.1).map cI) cap)),(2,.iter (.l 0) co (bornL a.1) co),(0,.map co (encI eU lo))],ou⟩)
  (fun m a=>(∀x∈a.1,x∈lo)/\(bornL a.1).Nodup/\(match a.2 with|none=>a.1=[]|some cap=>a.1.length<=cap)/\m=leftM lo (bornL a.1)) (a0:=([],none)) (ρ:=id) ⟨by simp,by simp[bornL],rfl,rfl⟩ (LessR.of rfl ?_ ?_ ?_ rfl rfl hou) fun m a hj=>?_
 ·(repeat' first|exact FrSub.nil|refine zfc ?_|refine zfo ?_|refine zfp ?_)
 ·simp
 ·repeat' first|exact LoSub.nil|refine zlc ?_|refine zld ?_ ?_|rfl
  all_goals (rw[Qhp,Q8p])
 obtain⟨zs,oc⟩:=a
 obtain⟨hzs,hnd,hcap,rfl⟩:=hj
 simp only at hzs hnd hcap
 have hin:∀k,k∈keyL zs->k∈occB (fun _=>0) t:=fun k hk=>by
  obtain⟨x,hx,rfl⟩:=List.mem_map.1 hk
  have h1:=(Qcv hg x.2.1).2 ⟨x,hzs x hx,rfl⟩
  rw[hgs]at h1
  simpa using h1
 have hkn:(keyL zs).Nodup:=Q7v (zs:=zs) hg.nk hzs hnd
 have hkl:(keyL zs).length<=1048576:=by
  have h1:=Q8s hkn hin
  have h2:=Q8r t (fun _=>0) []
  simp at h2
  omega
 have hend':(∀x∈encI eU lo,x.1∈bornL zs)->(keyL zs).mergeSort (fun x y=>decide (x<=y))=Q2j t:=fun hend=>by
  rw[Q70]
  refine sort_eq hkn fun k=>⟨hin k,fun hk=>?_⟩
  have h1:(g k).isSome=true:=by rw[hgs];simpa using hk
  obtain⟨x,hx,rfl⟩:=(Qcv hg k).1 h1
  have h2:=hend (x.1,.int .i64 x.2.1,eU x.2.2) (List.mem_map.2 ⟨x,hx,rfl⟩)
  obtain⟨y,hy,e⟩:=List.mem_map.1 h2
  have:=Qh6 hg.nb (hzs y hy) hx e
  subst this
  exact List.mem_map.2 ⟨y,hy,rfl⟩
 cases oc with
 |none=>
  subst hcap
  refine zA ?_
  refine AOps.nextMap rfl rfl rfl rfl rfl rfl rfl (Qad hg) (Nat.le_refl _) Qd5 (fun hend=>?_) (fun b u v hmem hnew=>?_)
  ·refine zA ?_
   refine AOps.callNo rfl rfl rfl rfl rfl rfl Q7k hn ?_
   refine zA ?_
   have h1:=hend' hend
   refine APure.fin rfl (.trans (.one (.nilS 1)) (.ofEq ?_)) (by simp) hou rfl
   rw[←h1];simp[keyL]
  ·obtain⟨rfl,x,hx,rfl,rfl,_⟩:=(Qck _ _ _ _).1 hmem
   obtain⟨bx,k,⟨⟩⟩:=x
   refine zA ?_
   refine zS (AStep.entry (last:=0) (u:=.int .i64 k) (v:=.agg []) rfl rfl rfl rfl (Q75 hg.nb hx) rfl) ?_
   refine zA ?_
   refine AOps.appOwn tabOk rfl rfl rfl rfl rfl rfl rfl rfl rfl (.nil 1) (.sl 1 [cI k]) (by simp) rfl (by simp;show 1 * 8<=_;omega) (by simp) fun cap hc=>?_
   refine zM ?_
   refine cInv ⟨leftM lo (bornL [(bx,k,())]),([(bx,k,())],some cap),id,Q7s (x:=(bx,k,())) hx hnew,⟨by simpa using hx,by simp[bornL],by simpa using hc,rfl⟩,LessR.of rfl ?_ (by simp) ?_ rfl rfl hou⟩
   ·exact FrSub.cons rfl (.ofEq rfl) (FrSub.cons rfl (.ofEq rfl) .nil)
   ·refine LoSub.cons rfl ?_ rfl (by simp) (LoSub.cons rfl ?_ rfl (by simp) (LoSub.cons rfl (Q8p _ _ _).symm rfl (by simp) .nil))
    ·rw[AObj.ren_pure _ _ (by simp)];simp[keyL]
    ·simp[AObj.ren,bornL];rfl
 |some cap=>
  refine zA ?_
  refine AOps.nextMap rfl rfl rfl rfl rfl rfl rfl (Qad hg) (Nat.le_refl _) Qd5 (fun hend=>?_) (fun b u v hmem hnew=>?_)
  ·have h1:=hend' hend
   refine zA ?_
   refine AOps.wk 21 rfl (y:=.one (.arr (.l 3) 1 0 (keyL zs).length cap)) (.ofEq (by simp)) ?_
   refine AOps.sortI (l:=keyL zs) rfl rfl rfl rfl rfl rfl Q7k hs rfl (by omega) ?_
   rw[h1]
   refine AOps.wk 4 rfl (y:=.one (.arr (.l 3) 1 0 ((Q2j t).map iC).length cap)) (.ofEq (by rw[←h1];simp)) ?_
   refine AOps.freezeArr (.l 3) 4 rfl (by simp) rfl ?_
   refine zA ?_
   exact APure.fin rfl (WkF.ofEq rfl) (by simp) hou rfl
  ·obtain⟨rfl,x,hx,rfl,rfl,_⟩:=(Qck _ _ _ _).1 hmem
   obtain⟨bx,k,⟨⟩⟩:=x
   refine zA ?_
   refine zS (AStep.entry (last:=0) (u:=.int .i64 k) (v:=.agg []) rfl rfl rfl rfl (Q75 hg.nb hx) rfl) ?_
   refine zA ?_
   have hzl:((keyL zs).map cI).length=zs.length:=by simp[keyL]
   refine AOps.appOwn tabOk rfl rfl rfl rfl rfl rfl rfl rfl rfl (.own 1 cap ((keyL zs).map cI) (.l 3) rfl (by simp[cI]) (by rw[hzl];exact hcap)) (.sl 1 [cI k]) (by simp) rfl (by simp;show (_+1) * 8<=_;omega) (by simp;omega) fun cap' hc=>?_
   refine zM ?_
   refine cInv ⟨leftM lo (bornL (zs++[(bx,k,())])),(zs++[(bx,k,())],some cap'),fun k=>if k=3 then 4 else k,by have:=Q7s (x:=(bx,k,())) hx hnew;simpa[bornL]using this,⟨?_,?_,by simpa[keyL]using hc,rfl⟩,LessR.of rfl ?_ (by simp) ?_ rfl rfl hou⟩
   ·intro y hy
    rcases List.mem_append.1 hy with hy|hy
    ·exact hzs y hy
    ·simp at hy;subst hy;exact hx
   ·simp only[bornL,List.map_append,List.map_cons,List.map_nil]
    rw[List.nodup_append]
    refine⟨hnd,by simp,fun a ha b hb e=>?_⟩
    simp at hb
    subst hb;subst e
    exact hnew ha
   ·exact FrSub.cons rfl (.ofEq rfl) (FrSub.cons rfl (.ofEq (by simp[keyL,FV.ren,AC.ren];rfl)) .nil)
   ·refine LoSub.cons rfl ?_ rfl (by simp) (LoSub.cons rfl ?_ rfl (by simp) (LoSub.cons rfl (Q8p _ _ _).symm rfl (by simp) .nil))
    ·rw[AObj.ren_pure _ _ (by simp)];simp[keyL]
    ·simp[AObj.ren,bornL];rfl
end Go.Proofs.YtkgjldchcbfpnaaGreatDoor
namespace Go.CoreX
end Go.CoreX
namespace Go.Proofs.YtkgjldchcbfpnaaGreatDoor
open Go Go.Abs Go.CoreX
variable {Γ:List (Nat×List AC)}
theorem ints_ne{xs ys:List Int}{j:Nat}{x y:Int}(h1:xs[j]?=some x)(h2:ys[j]?=some y)(h:x≠y):(xs==ys)=false:=by
 apply beq_eq_false_iff_ne.2
 rintro rfl
 rw[h1]at h2
 exact h (by simpa using h2)
theorem ints_eq{xs ys:List Int}(hl:xs.length=ys.length)(h:∀(j:Nat)(x y:Int),xs[j]?=some x->ys[j]?=some y->x=y):(xs==ys)=true:=by
 rw[beq_iff_eq]
 refine List.ext_getElem hl fun i h1 h2=>h i _ _ (List.getElem?_eq_getElem h1) (List.getElem?_eq_getElem h2)
theorem Qbr(hΓ:∀g cs,(g,cs)∈Γ->idsL isO cs)(xs ys:List Int)(hx:xs.length<=1048576):
  APure Tryz.prog Γ 20 [.one (.sl 1 (xs.map cI)),.one (.sl 1 (ys.map cI))] (.one (.lit (.bool (xs==ys)))):=by
 intro ou
 refine AFn.walk 26 tabOk Tryz.func20 rfl (by kernel_rfl) rfl rfl fun hou=>?_
 refine zA ?_
 refine ACode.cond rfl (fun hb=>?_) (fun hb=>?_)
 ·refine zA ?_
  refine APure.fin rfl (WkF.ofEq ?_) (by simp) hou rfl
  have:(xs==ys)=false:=by
   apply beq_eq_false_iff_ne.2
   rintro rfl
   simp at hb
  rw[this]
 have hl:xs.length=ys.length:=by simp at hb;omega
 clear hb
 refine zA ?_
 refine ACode.loopR hΓ (α:=Nat) (fun j=>[(13,.one (int j)),(12,.one (int (xs.map cI).length)),(1,.one (.sl 1 (ys.map cI))),(0,.one (.sl 1 (xs.map cI)))])
  (fun j => ⟨0, [], ou⟩) (fun m j => j <= xs.length /\ (∀ (i : Nat) (x y : Int), i < j -> xs[i]? = some x -> ys[i]? = some y -> x = y) /\ m = xs.length - j) (a0 := 0) (ρ := id) ⟨by omega, fun i x y h => by omega, rfl⟩ (LessR.of rfl zFS (by simp) zLO rfl rfl hou) fun m j hj => ?_
 obtain⟨hjl,hno,rfl⟩:=hj
 refine zA ?_
 refine ACode.cond rfl (fun hb2=>?_) (fun hb2=>?_)
 ·have hlt:j < xs.length:=by simpa using hb2
  obtain⟨x,hx1⟩:=Q01 hlt
  obtain⟨y,hy1⟩:=Q01 (l:=ys) (i:=j) (by omega)
  refine zA ?_
  refine ACode.drawX tabOk 8 [(2,.one (.box (cI x))),(6,.one (.box (cI y)))] follows (by kernel_rfl) rfl rfl rfl rfl ?_ ?_
  ·refine .step rfl (zHP (zIA rfl rfl rfl (by omega) (Q06 hx1))) ?_
   exact .step rfl (zHP (zIA rfl rfl rfl (by omega) (Q06 hy1))) .nil
  refine zA ?_
  refine ACode.cond rfl (fun hb3=>?_) (fun hb3=>?_)
  ·have hne:x≠y:=by simpa using hb3
   refine zA ?_
   refine APure.fin rfl (WkF.ofEq ?_) (by simp) hou rfl
   rw[ints_ne hx1 hy1 hne]
  ·have he:x=y:=by simpa using hb3
   refine zM ?_
   refine cInv ⟨xs.length - (j+1),j+1,id,by omega,⟨by omega,fun i x' y' hi h1 h2=>?_,rfl⟩,LessR.of rfl zFS (by simp) zLO rfl rfl hou⟩
   by_cases e:i=j
   ·subst e
    rw[hx1]at h1;rw[hy1]at h2
    cases h1;cases h2;exact he
   ·exact hno i x' y' (by omega) h1 h2
 ·have hlt:j=xs.length:=by simp at hb2;omega
  subst hlt
  refine zA ?_
  refine APure.fin rfl (WkF.ofEq ?_) (by simp) hou rfl
  rw[ints_eq hl fun i x y h1 h2=>hno i x y (List.getElem?_eq_some_iff.1 h1).1 h1 h2]
end Go.Proofs.YtkgjldchcbfpnaaGreatDoor
namespace Go.Proofs
open Go.Shelf
def Tryz.lays189_ren:Go.Shelf.Ren:=⟨fun|189=>84|125=>105|257=>104|128=>132|129=>133|294=>123|295=>124|296=>125|297=>126|298=>127|299=>128|216=>129|300=>130|301=>131|328=>157|329=>158|330=>159|331=>160|332=>161|215=>162|343=>187|n=>n,fun|28=>25|3=>3|46=>187|0=>0|51=>234|53=>236|4=>4|183=>226|182=>225|131=>231|5=>5|9=>9|218=>273|222=>277|228=>298|229=>135|n=>n,fun|n=>n⟩
theorem Tryz.lays189:Go.Proofs.Lays.n189 Tryz.prog Tryz.lays189_ren:={
 mixed:=by kernel_rfl
 f125:=Tryz.func105.trans (congrArg some (by kernel_rfl))
 f128:=Tryz.func132.trans (congrArg some (by kernel_rfl))
 f129:=Tryz.func133.trans (congrArg some (by kernel_rfl))
 f189:=Tryz.func84.trans (congrArg some (by kernel_rfl))
 f215:=Tryz.func162.trans (congrArg some (by kernel_rfl))
 f216:=Tryz.func129.trans (congrArg some (by kernel_rfl))
 f257:=Tryz.func104.trans (congrArg some (by kernel_rfl))
 f294:=Tryz.func123.trans (congrArg some (by kernel_rfl))
 f295:=Tryz.func124.trans (congrArg some (by kernel_rfl))
 f296:=Tryz.func125.trans (congrArg some (by kernel_rfl))
 f297:=Tryz.func126.trans (congrArg some (by kernel_rfl))
 f298:=Tryz.func127.trans (congrArg some (by kernel_rfl))
 f299:=Tryz.func128.trans (congrArg some (by kernel_rfl))
 f300:=Tryz.func130.trans (congrArg some (by kernel_rfl))
 f301:=Tryz.func131.trans (congrArg some (by kernel_rfl))
 f328:=Tryz.func157.trans (congrArg some (by kernel_rfl))
 f329:=Tryz.func158.trans (congrArg some (by kernel_rfl))
 f330:=Tryz.func159.trans (congrArg some (by kernel_rfl))
 f331:=Tryz.func160.trans (congrArg some (by kernel_rfl))
 f332:=Tryz.func161.trans (congrArg some (by kernel_rfl))
 f343:=Tryz.func187.trans (congrArg some (by kernel_rfl))
 t0:=Tryz.underlying0
 a0:=Tryz.isAgg0
 z0:=Tryz.sizeOf0
 v0:=Tryz.zeroValue0
 t3:=Tryz.underlying3
 a3:=Tryz.isAgg3
 z3:=Tryz.sizeOf3
 v3:=Tryz.zeroValue3
 t4:=Tryz.underlying4
 a4:=Tryz.isAgg4
 z4:=Tryz.sizeOf4
 v4:=Tryz.zeroValue4
 t5:=Tryz.underlying5
 a5:=Tryz.isAgg5
 z5:=Tryz.sizeOf5
 v5:=Tryz.zeroValue5
 t9:=Tryz.underlying9
 a9:=Tryz.isAgg9
 z9:=Tryz.sizeOf9
 v9:=Tryz.zeroValue9
 t28:=Tryz.underlying25
 a28:=Tryz.isAgg25
 z28:=Tryz.sizeOf25
 v28:=Tryz.zeroValue25
 t46:=Tryz.underlying187
 a46:=Tryz.isAgg187
 z46:=Tryz.sizeOf187
 v46:=Tryz.zeroValue187
 t51:=Tryz.underlying234
 a51:=Tryz.isAgg234
 z51:=Tryz.sizeOf234
 v51:=Tryz.zeroValue234
 t53:=Tryz.underlying236
 a53:=Tryz.isAgg236
 z53:=Tryz.sizeOf236
 v53:=Tryz.zeroValue236
 t131:=Tryz.underlying231
 a131:=Tryz.isAgg231
 z131:=Tryz.sizeOf231
 v131:=Tryz.zeroValue231
 t182:=Tryz.underlying225
 a182:=Tryz.isAgg225
 z182:=Tryz.sizeOf225
 v182:=Tryz.zeroValue225
 t183:=Tryz.underlying226
 a183:=Tryz.isAgg226
 z183:=Tryz.sizeOf226
 v183:=Tryz.zeroValue226
 t218:=Tryz.underlying273
 a218:=Tryz.isAgg273
 z218:=Tryz.sizeOf273
 v218:=Tryz.zeroValue273
 t222:=Tryz.underlying277
 a222:=Tryz.isAgg277
 z222:=Tryz.sizeOf277
 v222:=Tryz.zeroValue277
 t228:=Tryz.underlying298
 a228:=Tryz.isAgg298
 z228:=Tryz.sizeOf298
 v228:=Tryz.zeroValue298
 t229:=Tryz.underlying135
 a229:=Tryz.isAgg135
 z229:=Tryz.sizeOf135
 v229:=Tryz.zeroValue135 }
open Go.Sort Go.RowKit in
theorem Tryz.slices_Sort_int(blk off cap:Nat)(zs:List Int)(w:World)(hH:Holds (Value.int .i64) w blk off zs.toArray)(hblk:blk < w.heap.size)(hsz:zs.length < 4611686018427387904):
  Calls Tryz.prog 84 #[.slice (some ⟨blk,off,none⟩) zs.length cap] w fun e w'=>
   e=.returned (.tuple #[])/\∃n os,w'=grow (putRow (Value.int .i64) (Sort.ahead w n) blk off (zs.mergeSort fun x y=>decide (x<=y)).toArray) os:=Any.slices_Sort_int Tryz.lays189 blk off cap zs w hH hblk hsz
theorem Tryz.slices_Sort_int_none(p:Option Addr)(cap:Nat)(w:World):
  Calls Tryz.prog 84 #[.slice p 0 cap] w fun e w'=>e=.returned (.tuple #[])/\w'=w:=Any.slices_Sort_int_none Tryz.lays189 p cap w
end Go.Proofs
namespace Go.Proofs.YtkgjldchcbfpnaaGreatDoor
open Go Go.Sort
theorem sortOk:SortOk:=fun blk off cap zs w hH hblk hsz=>Tryz.slices_Sort_int blk off cap zs w hH hblk hsz
theorem sortNil:Qhc:=fun w=>Tryz.slices_Sort_int_none none 0 w
end Go.Proofs.YtkgjldchcbfpnaaGreatDoor
namespace Go.CoreX
theorem Qi9{e:List Ex}(h:∀x∈e,x.binds.length<=1048576/\x.kids.length<=1048576/\x.alts.length<=1048576/\(∀a∈x.alts,a.binds.length<=1048576)/\x.binds.length+(x.alts.flatMap (·.binds)).length<=4194304)(hk:Q15 e):∀t∈growL e,okT t:=by
 revert h hk
 refine Q4v (P:=fun e=>(∀x∈e,x.binds.length<=1048576/\x.kids.length<=1048576/\x.alts.length<=1048576/\(∀a∈x.alts,a.binds.length<=1048576)/\x.binds.length+(x.alts.flatMap (·.binds)).length<=4194304)->Q15 e->∀t∈growL e,okT t) (fun _ _ t ht=>by simp[growL]at ht) (fun e x ih h hk t ht=>?_) e
 obtain⟨h1,h2⟩:=Q2t.1 hk
 have ih:=ih (fun y hy=>h y (by simp[hy])) h1
 rw[Q20]at ht
 rcases List.mem_append.1 ht with ht|ht
 ·exact ih t ht
 ·simp at ht
  subst ht
  obtain⟨a1,a2,a3,a4,a5⟩:=h x (by simp)
  refine⟨a1,by simpa using a2,a3,⟨a4,a5⟩,Q65.2 fun s hs=>?_⟩
  obtain⟨k,hk2,rfl⟩:=List.mem_map.1 hs
  have hkb:=h2 k hk2
  have hl:k.toNat < (growL e).length:=by rw[Q1a];omega
  rw[List.getD_eq_getElem?_getD,List.getElem?_eq_getElem hl]
  exact ih _ (List.getElem_mem hl)
theorem Qim{e:List Ex}(h:e≠[]):grow e∈growL e:=by
 have hl:e.length - 1 < (growL e).length:=by rw[Q1a];have:=List.length_pos_iff.2 h;omega
 unfold grow
 rw[List.getD_eq_getElem?_getD,List.getElem?_eq_getElem hl]
 exact List.getElem_mem hl
theorem Q72{α:Type}{f:α->Int}:∀{l:List α}{j:Nat}{x:α},(∀y∈l.take j,f y=0)->l[j]?=some x->f x≠0->Q1m f l=f x
 |[],j,x,_,h,_=>by simp at h
 |a::l,0,x,_,h,hx=>by simp at h;subst h;simp[Q1m,hx]
 |a::l,j+1,x,h0,h,hx=>by
  have h1:=h0 a (by simp)
  simp only[Q1m,h1]
  exact Q72 (l:=l) (j:=j) (fun y hy=>h0 y (by simp[hy])) (by simpa using h) hx
theorem Qe1(t:Tr):(Q2j t).length<=(listT [] t).length:=by
 have h1:(Q2j t).Nodup:=(Q3p (occT [] t)).imp fun {a b} h=>by omega
 have h2:=Q8s h1 (m:=occB (fun _=>0) t) fun x hx=>by rw[Q70]at hx;exact (Q4u x _).1 hx
 have h3:=Q8r t (fun _=>0) []
 simp at h3
 omega
theorem Qcm{e:List Ex}(h:IsTree e):(listT [] (grow e)).length=e.length:=by
 have hp:=Qfw h (Q6t (grow e)) (Q3v _).symm
 rw[←Qcn e,←Qcn];exact hp.length_eq.symm
end Go.CoreX
namespace Go.Proofs.YtkgjldchcbfpnaaGreatDoor
open Go Go.Abs Go.CoreX
structure okB (e:List Ex):Prop where
 eo:okE e
 b:∀x∈e,x.binds.length+(x.alts.flatMap (·.binds)).length<=4194304
theorem okB.ex{e:List Ex}(h:okB e):∀x∈e,(Q0n x).length<=4194304/\x.binds.length+(x.alts.flatMap (·.binds)).length<=4194304:=fun x hx=>by
 have h1:=h.b x hx
 refine⟨?_,h1⟩
 unfold Q0n Q1o
 rw[List.length_append]
 split
 ·omega
 ·simp only[List.length_nil];omega
theorem okB.t{e:List Ex}(h:okB e)(hk:Q15 e)(hne:e≠[]):okT (grow e):=Qi9 (fun x hx=>⟨(h.eo.x x hx).b,(h.eo.x x hx).k,(h.eo.x x hx).a,(h.eo.x x hx).ab,h.b x hx⟩) hk _ (Qim hne)
theorem hΓcF:∀g cs,(g,cs)∈Γc->idsL (fun _=>False) cs:=fun g cs h=>by
 simp[Γc]at h
 first
  |(obtain⟨rfl,rfl⟩:=h;simp[arC,Q2k];done)
  |(rcases h with ⟨rfl,rfl⟩|⟨rfl,rfl⟩ <;> simp[arC,orC,Q2k])
set_option maxHeartbeats 1000000 in
theorem Qbw(e:List Ex)(he:okB e)(params:List Int)(hp:params.length<=1048576)(flat:Bool):
  APure Tryz.prog Γc 21 [.one (.sl 5 (e.map cEx)),.one (.sl 1 (params.map cI)),.one (.lit (.bool flat))] (.one (int (body e params flat))):=by
 have hel:=he.eo.l
 intro ou
 refine AFn.walk 62 tabOk Tryz.func21 rfl (by kernel_rfl) rfl rfl fun hou=>?_
 refine zA ?_
 refine AOps.freeze1 (.l 0) 3 rfl rfl ?_
 refine zca hΓc (Q9n hΓc e he.eo) hou ?_
 refine zA ?_
 refine ACode.cond rfl (fun hb=>?_) (fun hb=>?_)
 ·have hb':Q1p e≠0:=by simpa using hb
  refine zA ?_
  refine APure.fin rfl (WkF.ofEq ?_) (by simp) hou rfl
  unfold body
  rw[if_pos hb']
 have h1:Q1p e=0:=by simpa using hb
 clear hb
 obtain⟨t1,t2,t3⟩:=(Q6e e).1 h1
 have hn:body e params flat=if Q1m (Q0m flat e) e≠0 then Q1m (Q0m flat e) e else if Q4h (params++Q0b e)=true then 7 else if (Q2j (grow e)).all (fun n=>params.contains n)=true then 0 else 6:=by
  unfold body;rw[if_neg (by simpa using h1)]
 refine zA ?_
 refine ACode.loopR hΓc (α:=Nat) (fun j=>[(20,.one (int j)),(19,.one (int (e.map cEx).length)),(18,.one (.sl 5 (e.map cEx))),(3,.one (.box [.sl 5 (e.map cEx)])),(2,.one (.lit (.bool flat))),(1,.one (.sl 1 (params.map cI)))])
  (fun j => ⟨0, [], ou⟩) (fun m j => j <= e.length /\ (∀ x ∈ e.take j, Q0m flat e x = 0) /\ m = e.length - j) (a0 := 0) (ρ := id) ⟨by omega, by simp, rfl⟩ (LessR.of rfl zFS (by simp) zLO rfl rfl hou) fun m j hj => ?_
 obtain⟨hjl,hno,rfl⟩:=hj
 refine zA ?_
 refine ACode.cond rfl (fun hb2=>?_) (fun hb2=>?_)
 ·have hlt:j < e.length:=by simpa using hb2
  obtain⟨x,hx⟩:=Q01 hlt
  have hxm:=List.mem_of_getElem? hx
  have hxo:=he.eo.x x hxm
  have bad:Q0m flat e x≠0->body e params flat=Q0m flat e x:=fun h=>by
   rw[hn,Q72 hno hx h,if_pos h]
  have hkk:∀k∈x.kids,0<=k/\k.toNat < e.length:=fun k hk=>by have:=Qfz t2.k hxm k hk;omega
  have hcall:=Qa0 e x hxo hkk
  refine zA ?_
  refine zS (zIA rfl rfl rfl (by omega) (Q06 hx)) ?_
  cases flat with
  |false=>
   have hE:Q0m false e x=if Q3g x.op=true then 3 else Q0z e x:=by simp[Q0m]
   repeat' first|refine zN ?_|(with_reducible refine oj ?_;refine AOps.splitS rfl rfl rfl rfl (fun hb=>?_) (fun hb=>?_))|(with_reducible refine ok ?_;first|refine ACode.condS rfl (fun hb=>?_) (fun hb=>?_)|refine ACode.cond rfl (fun hb=>?_) (fun hb=>?_))
   refine zca hΓc (Qbd x.op) hou ?_
   repeat' first|refine zN ?_|(with_reducible refine oj ?_;refine AOps.splitS rfl rfl rfl rfl (fun hb=>?_) (fun hb=>?_))|(with_reducible refine ok ?_;first|refine ACode.condS rfl (fun hb=>?_) (fun hb=>?_)|refine ACode.cond rfl (fun hb=>?_) (fun hb=>?_))
   all_goals try
    (
    refine APure.fin rfl (WkF.ofEq ?_) (by simp) hou rfl
    rw[bad (by rw[hE,if_pos hb];decide),hE,if_pos hb]
    done)
   rw[if_neg (by rw[hb];decide)]at hE
   refine zca hΓc hcall hou ?_
   refine zA ?_
   refine ACode.cond rfl (fun hb3=>?_) (fun hb3=>?_)
   ·have h3:Q0z e x≠0:=by simpa using hb3
    refine zA ?_
    refine APure.fin rfl (WkF.ofEq ?_) (by simp) hou rfl
    rw[bad (by rw[hE];exact h3),hE]
   ·have h3:Q0z e x=0:=by simpa using hb3
    refine zM ?_
    exact cInv ⟨e.length - (j+1),j+1,id,by omega,⟨by omega,Q1b hno hx (by rw[hE];exact h3),rfl⟩,LessR.of rfl zFS (by simp) zLO rfl rfl hou⟩
  |true=>
   have hE:Q0m true e x=if Q3h x.op=true then 3 else Q0z e x:=by simp[Q0m]
   repeat' first|refine zN ?_|(with_reducible refine oj ?_;refine AOps.splitS rfl rfl rfl rfl (fun hb=>?_) (fun hb=>?_))|(with_reducible refine ok ?_;first|refine ACode.condS rfl (fun hb=>?_) (fun hb=>?_)|refine ACode.cond rfl (fun hb=>?_) (fun hb=>?_))
   refine zca hΓc (Qbf x.op) hou ?_
   repeat' first|refine zN ?_|(with_reducible refine oj ?_;refine AOps.splitS rfl rfl rfl rfl (fun hb=>?_) (fun hb=>?_))|(with_reducible refine ok ?_;first|refine ACode.condS rfl (fun hb=>?_) (fun hb=>?_)|refine ACode.cond rfl (fun hb=>?_) (fun hb=>?_))
   all_goals try
    (
    refine APure.fin rfl (WkF.ofEq ?_) (by simp) hou rfl
    rw[bad (by rw[hE,if_pos hb];decide),hE,if_pos hb]
    done)
   rw[if_neg (by rw[hb];decide)]at hE
   refine zca hΓc hcall hou ?_
   refine zA ?_
   refine ACode.cond rfl (fun hb3=>?_) (fun hb3=>?_)
   ·have h3:Q0z e x≠0:=by simpa using hb3
    refine zA ?_
    refine APure.fin rfl (WkF.ofEq ?_) (by simp) hou rfl
    rw[bad (by rw[hE];exact h3),hE]
   ·have h3:Q0z e x=0:=by simpa using hb3
    refine zM ?_
    exact cInv ⟨e.length - (j+1),j+1,id,by omega,⟨by omega,Q1b hno hx (by rw[hE];exact h3),rfl⟩,LessR.of rfl zFS (by simp) zLO rfl rfl hou⟩
 have hlt:j=e.length:=by simp at hb2;omega
 subst hlt
 rw[List.take_length]at hno
 rw[if_neg (by rw[Classical.not_not];exact (Q1l _ _).2 hno)]at hn
 clear hno hb2 hjl
 have hgt:=he.t t2.k t2.ne
 refine zA ?_
 refine zca hΓc (Qhn hΓc e he.eo params hp he.ex) hou ?_
 refine zA ?_
 refine ACode.cond rfl (fun hb=>?_) (fun hb=>?_)
 ·refine zA ?_
  refine APure.fin rfl (WkF.ofEq ?_) (by simp) hou rfl
  rw[hn,if_pos hb]
 rw[if_neg (by rw[hb];decide)]at hn
 refine zA ?_
 refine zca hΓc (Q9i hΓc e he.eo t2.k t2.ne) hou ?_
 refine zca hΓc (Qhf hΓc hΓcF sortOk sortNil (grow e) hgt (by omega) (by rw[Qcm t2];omega)) hou ?_
 have hfl:=Qe1 (grow e)
 rw[Qcm t2]at hfl
 generalize Q2j (grow e)=fs at hn hfl
 refine zA ?_
 refine ACode.loopR hΓc (α:=Nat) (fun j=>[(53,.one (int j)),(52,.one (int (fs.map cI).length)),(51,.one (.sl 1 (fs.map cI))),(1,.one (.sl 1 (params.map cI)))])
  (fun j=>⟨0,[],ou⟩) (fun m j=>j<=fs.length/\(∀x∈fs.take j,params.contains x=true)/\m=fs.length - j) (a0:=0) (ρ:=id) ⟨by omega,by simp,rfl⟩ (LessR.of rfl zFS (by simp) zLO rfl rfl hou) fun m j hj=>?_
 obtain⟨hjl,hno,rfl⟩:=hj
 refine zA ?_
 refine ACode.cond rfl (fun hb2=>?_) (fun hb2=>?_)
 ·have hlt:j < fs.length:=by simpa using hb2
  obtain⟨k,hk⟩:=Q01 hlt
  refine zA ?_
  refine zS (zIA rfl rfl rfl (by omega) (Q06 hk)) ?_
  refine zA ?_
  refine zca hΓc (Qbt hΓc params hp k) hou ?_
  refine zA ?_
  refine ACode.cond rfl (fun hb3=>?_) (fun hb3=>?_)
  ·refine zA ?_
   refine APure.fin rfl (WkF.ofEq ?_) (by simp) hou rfl
   rw[hn,if_neg]
   rw[List.all_eq_true]
   intro h
   have:=h k (List.mem_of_getElem? hk)
   rw[this]at hb3;cases hb3
  ·refine zM ?_
   exact cInv ⟨fs.length - (j+1),j+1,id,by omega,⟨by omega,Q1b hno hk (by simpa using hb3),rfl⟩,LessR.of rfl zFS (by simp) zLO rfl rfl hou⟩
 ·have hlt:j=fs.length:=by simp at hb2;omega
  subst hlt
  rw[List.take_length]at hno
  refine zA ?_
  refine APure.fin rfl (WkF.ofEq ?_) (by simp) hou rfl
  rw[hn,if_pos (List.all_eq_true.2 hno)]
theorem Q9j(e:List Ex)(he:okB e):APure Tryz.prog Γc 10 [.one (.sl 5 (e.map cEx))] (.one (int (check e))):=by
 intro ou
 refine AFn.walk 5 tabOk Tryz.func10 rfl (by kernel_rfl) rfl rfl fun hou=>?_
 refine zA ?_
 refine AOps.callCW (ws:=[.one (.sl 5 (e.map cEx)),.one (.sl 1 (([]:List Int).map cI)),.one (.lit (.bool false))]) hΓc (Qbw e he [] (by simp) false) rfl rfl rfl rfl rfl rfl ?_ hou (by simp) ?_
 ·exact .cons (.refl _) (.cons (.one (.nilS 1)) (.cons (.refl _) .nil))
 refine zA ?_
 exact APure.fin rfl (WkF.ofEq rfl) (by simp) hou rfl
variable {Γ:List (Nat×List AC)}
end Go.Proofs.YtkgjldchcbfpnaaGreatDoor
namespace Go.Abs
theorem AStep.wk{E:Env}{o:Oper}{fr:Fr}{σ σ':St}{x y:FV}(h:AStep E o fr σ x σ')(hw:WkF x y):AStep E o fr σ y σ':=
 fun F w C tmps hi hf next Q hk=>h F w C tmps hi hf next Q fun u w' C' a b c=>hk u w' C' a b (hw _ _ _ c)
end Go.Abs
namespace Go.Proofs.YtkgjldchcbfpnaaGreatDoor
open Go Go.Abs Go.CoreX
variable {Γ:List (Nat×List AC)}
mutual
def encNd:Tr->List AC
 |.mk o n b k a=>[int o,int n,.sl 1 (b.map cI),.any,.sl 2 (a.map cAlt),.sl 1 (Q2v k)]
def Q2v:List Tr->List (List AC)
 |[]=>[]
 |t::ts=>[.box (encNd t)]::Q2v ts
end
def cNd (t:Tr):List AC:=[int t.op,int t.n,.sl 1 (t.binds.map cI),.any,.sl 2 (t.alts.map cAlt),.sl 1 (Q2v t.kids)]
theorem Qir(t:Tr):encNd t=cNd t:=by cases t;simp[encNd,cNd]
theorem Q3y:∀l:List Tr,Q2v l=l.map fun t=>[.box (cNd t)]
 |[]=>rfl
 |t::ts=>by simp[Q2v,Q3y ts,Qir]
theorem Qe3{l:List Tr}{i:Nat}{t:Tr}(h:l[i]?=some t):(Q2v l)[i]?=some [.box (cNd t)]:=by rw[Q3y];simp[h]
mutual
theorem Qgc(p:Abs.Id->Prop):∀t:Tr,idsL p (encNd t)
 |.mk o n b k a=>by simp[encNd,Q5o p k]
theorem Q5o(p:Abs.Id->Prop):∀l:List Tr,idsS p (Q2v l)
 |[]=>by simp[Q2v]
 |t::ts=>by simp[Q2v,Qgc p t,Q5o p ts]
end
attribute [simp] Q5o
@[simp] theorem ids_cNd (p:Abs.Id->Prop) (t:Tr):idsL p (cNd t):=by simp[cNd]
@[simp] theorem len_encNds (l:List Tr):(Q2v l).length=l.length:=by rw[Q3y];simp
theorem N_ok(op n:Int)(ks:List Tr):APure Tryz.prog Γ 37 [.one (int op),.one (int n),.one (.sl 1 (Q2v ks))] (.one (.box (cNd (.mk op n [] ks [])))):=by
 intro ou
 refine AFn.walk 13 tabOk Tryz.func37 rfl (by kernel_rfl) rfl rfl fun hou=>?_
 iterate 14 (first|((with_reducible refine oj ?_);refine zau ?_)|(with_reducible refine zst ?_)|((with_reducible refine Q0t ?_ ?_);rfl)|(with_reducible refine ok ?_;first|refine ACode.condT rfl ?_|refine ACode.condF rfl ?_))
 refine AOps.freeze1 (.l 0) 6 rfl rfl ?_
 refine zA ?_
 refine APure.fin rfl (.one (Wk.box ?_)) (by simp) hou rfl
 exact .cons (.refl _) (.cons (.refl _) (.cons (.nilS 1) (.cons (.any _) (.cons (.nilS 2) (.cons (.refl _) .nil)))))
theorem V_ok(hΓ:∀g cs,(g,cs)∈Γ->idsL isO cs)(n:Int):APure Tryz.prog Γ 38 [.one (int n)] (.one (.box (cNd (.mk 0 n [] [] [])))):=by
 intro ou
 refine AFn.walk 5 tabOk Tryz.func38 rfl (by kernel_rfl) rfl rfl fun hou=>?_
 refine zA ?_
 refine AOps.callCW (ws:=[.one (int 0),.one (int n),.one (.sl 1 (Q2v []))]) hΓ (N_ok 0 n []) rfl rfl rfl rfl rfl rfl ?_ hou (by simp) ?_
 ·exact .cons (.refl _) (.cons (.refl _) (.cons (.one (.nilS 1)) .nil))
 refine zA ?_
 exact APure.fin rfl (WkF.ofEq rfl) (by simp) hou rfl
def IntoOk (Γ:List (Nat×List AC))(t:Tr):Prop:=∀(ou:Outer)(ko kt:Nat)(out:List Ex),OuOk ou->ou ko=none->ou kt=none->ko≠kt->(listT out t).length<=1048576->
 AFn Tryz.prog Γ 80 [.one (.box (cNd t)),.one (.ptr (.o ko) 0)] (ouS ou ko kt (out.map cEx)) (fun r ou'=>r=.one (int (((listT out t).length:Int) - 1))/\∃kt',ou kt'=none/\ko≠kt'/\ou'=ouS ou ko kt' ((listT out t).map cEx))
set_option maxHeartbeats 1000000 in
theorem Qg7(hΓ:∀g cs,(g,cs)∈Γ->idsL isO cs):∀t:Tr,okT t->IntoOk Γ t
 |.mk o n b ks a,hok=>by
  obtain⟨hb,hk,ha,⟨hab,_⟩,hks⟩:=hok
  have ih:∀t∈ks,IntoOk Γ t:=fun t ht=>Qg7 hΓ t (Q65.1 hks t ht)
  intro ou ko kt out hou0 ho ht hne hsz
  have hsz2:(Q04 out ks).1.length < 1048576:=by simp only[listT,List.length_append,List.length_singleton]at hsz;omega
  refine AFn.walk 44 tabOk Tryz.func80 rfl (by kernel_rfl) rfl rfl fun hou=>?_
  refine zA ?_
  refine ACode.grow 0 3 3 1 rfl rfl ?_
  refine ACode.loopR hΓ (α:=Nat×Nat) (fun c=>[(18,.one (int c.1)),(17,.one (int (Q2v ks).length)),(16,.one (.sl 1 (Q2v ks))),(5,.one (.ptr (.l 0) 0)),(1,.one (.ptr (.o ko) 0))])
   (fun c=>⟨2,[(1,.tok 3 1 c.1),(0,.cells [int o,int n,.sl 1 (b.map cI),.gs 1 ((Q04 out (ks.take c.1)).2.map cI) (.l 1),.sl 2 (a.map cAlt)])],ouS ou ko c.2 ((Q04 out (ks.take c.1)).1.map cEx)⟩)
   (fun m c=>c.1<=ks.length/\(ou c.2=none/\ko≠c.2)/\m=ks.length - c.1) (a0:=(0,kt)) (ρ:=id) ⟨by omega,⟨ht,hne⟩,rfl⟩ (LessR.of rfl zFS (by simp) ?_ rfl (by simp[Q04];rfl) hou) fun m c hi=>?_
  ·repeat' first|exact LoSub.nil|refine zlc ?_|refine zld ?_ ?_|rfl
   all_goals (simp[AObj.ren,renL,AC.ren,Q04];rfl)
  obtain⟨i,kt⟩:=c
  obtain⟨hil,⟨ht,hne⟩,rfl⟩:=hi
  simp only at hil ht hne
  have hle:(Q04 out (ks.take i)).1.length<=(Q04 out ks).1.length:=by
   have:=Q5k (ks.take i) (ks.drop i) out
   rw[List.take_append_drop]at this
   rw[this];exact Q53 _ _
  refine zA ?_
  refine ACode.cond rfl (fun hb3=>?_) (fun hb3=>?_)
  ·have hlt2:i < ks.length:=by simpa using hb3
   obtain⟨t,ht2⟩:=Q01 hlt2
   have hsn:=Q6p t (ks.take i) out
   rw[←Q2d ht2]at hsn
   have hle2:(listT (Q04 out (ks.take i)).1 t).length<=1048576:=by
    have:=Q5k (ks.take (i+1)) (ks.drop (i+1)) out
    rw[List.take_append_drop]at this
    have h2:=Q53 (ks.drop (i+1)) (Q04 out (ks.take (i+1))).1
    rw[←this,hsn]at h2
    simp only at h2
    omega
   have hcall:=ih t (List.mem_of_getElem? ht2) ou ko kt (Q04 out (ks.take i)).1 hou0 ho ht hne hle2
   have hil2:((Q04 out (ks.take i)).2.map cI).length=i:=by rw[List.length_map,Q54];simp;omega
   refine zA ?_
   refine zS (zIA rfl rfl rfl (by omega) (Qe3 ht2)) ?_
   refine zA ?_
   refine ACode.drawXR (va:=.one (int (((listT (Q04 out (ks.take i)).1 t).length:Int) - 1))) tabOk 6 4 []
    (fun σ=>∃kt',ou kt'=none/\ko≠kt'/\σ=⟨2,[(1,.tok 3 1 i),(0,.cells [int o,int n,.sl 1 (b.map cI),.gs 1 ((Q04 out (ks.take i)).2.map cI) (.l 1),.sl 2 (a.map cAlt)])],ouS ou ko kt' ((listT (Q04 out (ks.take i)).1 t).map cEx)⟩)
    follows (by kernel_rfl) rfl rfl rfl rfl rfl ?_ rfl ⟨rfl,rfl⟩ rfl ?_ .nil ?_ ?_
   ·rintro σ ⟨kt',h1,h2,rfl⟩;rfl
   ·refine Q0y.call hΓ rfl rfl rfl rfl (by simp) (Qce hou0 (by simp)) hcall fun r ou' hq _ _=>?_
    obtain⟨rfl,kt',h1,h2,rfl⟩:=hq
    exact⟨rfl,kt',h1,h2,rfl⟩
   ·intro σ _;exact .nil
   rintro σ ⟨kt',h1,h2,rfl⟩
   refine zA ?_
   refine AOps.app tabOk rfl rfl rfl rfl rfl rfl rfl rfl rfl (Base.gs' _ _ _ _ _ (by rfl) hil2.symm) (.sl _ _) rfl ?_ ?_ ?_
   ·rw[hil2];show (i+1) * 8<=_;omega
   ·rw[hil2];show i+1<=_;omega
   refine zM ?_
   refine cInv ⟨ks.length - (i+1),(i+1,kt'),fun k=>if k=1 then 2 else k,by omega,⟨by omega,⟨h1,h2⟩,rfl⟩,LessR.of rfl zFS (by simp) ?_ rfl (by simp only[hsn];rfl) (Qce hou0 (by simp))⟩
   repeat' first|exact LoSub.nil|refine zlc ?_|refine zld ?_ ?_|rfl
   ·simp only[AObj.ren,List.length_append,hil2];rfl
   ·simp only[hsn];simp only[AObj.ren,renL,AC.ren,Qb1,Q9x];rw[List.map_append];rfl
  have hlt2:i=ks.length:=by simp at hb3;omega
  subst hlt2
  rw[List.take_length]at *
  refine zA ?_
  have hT:listT out (.mk o n b ks a)=(Q04 out ks).1++[⟨o,n,b,(Q04 out ks).2,a⟩]:=by simp only[listT]
  have hmap:(Q04 out ks).1.map cEx++[cEx ⟨o,n,b,(Q04 out ks).2,a⟩]=(listT out (.mk o n b ks a)).map cEx:=by rw[hT,List.map_append];rfl
  have hw:WkF (.agg [int o,int n,.sl 1 (b.map cI),.gs 1 ((Q04 out ks).2.map cI) (.l 1),.sl 2 (a.map cAlt)]) (.agg (cEx ⟨o,n,b,(Q04 out ks).2,a⟩)):=WkF.agg (.cons (.refl _) (.cons (.refl _) (.cons (.refl _) (.cons (.gsE rfl) (.cons (.refl _) .nil)))))
  have hko:(bif Nat.beq ko kt then some AObj.dead else ouS ou ko kt ((Q04 out ks).1.map cEx) ko)=some (.cells [.gs 5 ((Q04 out ks).1.map cEx) (.o kt)]):=by rw[Q08 hne];exact ouS_o hne _
  refine ACode.drawXH (va:=.one (.gs 5 ((Q04 out ks).1.map cEx++[cEx ⟨o,n,b,(Q04 out ks).2,a⟩]) (.l 2))) (σ1:=(St.set ⟨2,[(1,.tok 3 1 ks.length),(0,.cells [int o,int n,.sl 1 (b.map cI),.gs 1 ((Q04 out ks).2.map cI) (.l 1),.sl 2 (a.map cAlt)])],ouS ou ko kt ((Q04 out ks).1.map cEx)⟩ (.o kt) .dead).push (.tok 75 5 ((Q04 out ks).1.map cEx++[cEx ⟨o,n,b,(Q04 out ks).2,a⟩]).length))
   tabOk 7 6 [(3,.one (.gs 5 ((Q04 out ks).1.map cEx) (.o kt))),(4,.agg (cEx ⟨o,n,b,(Q04 out ks).2,a⟩))] follows (by kernel_rfl) rfl rfl rfl rfl rfl rfl rfl ?_ ?_ ?_ ?_
  ·refine HStep.plain rfl (AStep.append (s:=5) (es:=(Q04 out ks).1.map cEx) (news:=[cEx ⟨o,n,b,(Q04 out ks).2,a⟩]) (ti:=ti34) (σ:=⟨2,[(1,.tok 3 1 ks.length),(0,.cells [int o,int n,.sl 1 (b.map cI),.gs 1 ((Q04 out ks).2.map cI) (.l 1),.sl 2 (a.map cAlt)])],ouS ou ko kt ((Q04 out ks).1.map cEx)⟩) tabOk rfl rfl rfl rfl rfl rfl (Base.gs' _ 75 5 _ (.o kt) (ouS_t ou ko kt _) rfl) (.sl _ _) rfl ?_ ?_)
   ·simp;show (_+1) * 88<=_;omega
   ·simp;omega
  ·refine .step rfl (zHP (zLD rfl rfl (ouS_o hne _) rfl)) ?_
   exact .step rfl (zHP (AStep.wk (AStep.ofOp tabOk rfl) hw)) .nil
  ·refine .step rfl (zHP (zLD rfl rfl hko rfl)) ?_
   exact .step rfl (zHP (AStep.wk (AStep.ofOp tabOk rfl) hw)) .nil
  rw[hmap]
  refine zA ?_
  refine AOps.storeOwn (cs:=[.gs 5 ((Q04 out ks).1.map cEx) (.o kt)]) tabOk rfl rfl rfl rfl rfl rfl rfl hko (by simp) ?_
  refine AOps.cede 2 (show 2 < 3 by omega) fun k hk=>⟨[(1,.one (.ptr (.o ko) 0))],⟨3,[],ouS ou ko k ((listT out (.mk o n b ks a)).map cEx)⟩,⟨fun d x hd=>?_,rfl,fun i x hx=>?_⟩,?_⟩
  ·by_cases e:1=d
   ·subst e
    simp[Fr.get]at hd;subst hd
    exact⟨_,rfl,WkF.ofEq rfl⟩
   ·simp[Fr.get,Q08 e]at hd
  ·have hk':(bif Nat.beq k ko then some (AObj.cells [.gs 5 ((listT out (.mk o n b ks a)).map cEx) (.l 2)])else bif Nat.beq k kt then some AObj.dead else ouS ou ko kt ((Q04 out ks).1.map cEx) k)=none:=hk
   have k1:k≠ko:=fun e=>by subst e;simp at hk'
   rw[Q08 k1]at hk'
   have k2:k≠kt:=fun e=>by subst e;simp at hk'
   rw[Q08 k2]at hk'
   simp only[cond_false,ouS_w k1 k2]at hk'
   cases i with
   |l m=>cases hx
   |o m=>
    have hx':ouS ou ko k ((listT out (.mk o n b ks a)).map cEx) m=some x:=hx
    by_cases e:m=k
    ·subst e
     rw[ouS_t]at hx';cases hx'
     exact⟨.l 2,_,rfl,rfl,rfl⟩
    ·by_cases e2:m=ko
     ·subst e2
      rw[ouS_o e]at hx';cases hx'
      refine⟨.o m,.cells [.gs 5 ((listT out (.mk o n b ks a)).map cEx) (.l 2)],?_,rfl,?_⟩
      ·show (bif Nat.beq m m then _ else _)=_;rw[Q3k];rfl
      ·simp only[AObj.sub,subL,AC.sub];rw[Qc3 _ (by simp)];rfl
     ·rw[ouS_w e2 e]at hx'
      have e3:m≠kt:=fun e=>by rw[e,ht]at hx';cases hx'
      refine⟨.o m,x,?_,rfl,(AObj.sub_o x (hou0 m x hx')).symm⟩
      show (bif Nat.beq m ko then _ else bif Nat.beq m kt then _ else ouS ou ko kt _ m)=_
      rw[Q08 e2,Q08 e3]
      exact (ouS_w e2 e3 _).trans hx'
  ·have hk':(bif Nat.beq k ko then some (AObj.cells [.gs 5 ((listT out (.mk o n b ks a)).map cEx) (.l 2)])else bif Nat.beq k kt then some AObj.dead else ouS ou ko kt ((Q04 out ks).1.map cEx) k)=none:=hk
   have k1:k≠ko:=fun e=>by subst e;simp at hk'
   rw[Q08 k1]at hk'
   have k2:k≠kt:=fun e=>by subst e;simp at hk'
   rw[Q08 k2]at hk'
   simp only[cond_false,ouS_w k1 k2]at hk'
   refine zA ?_
   refine zS (zLD rfl rfl (ouS_o (Ne.symm k1) _) rfl) ?_
   refine zM ?_
   refine AFn.fin' rfl (WkF.ofEq ?_) (by simp) (Qce hou0 (by simp)) ⟨rfl,k,hk',Ne.symm k1,rfl⟩
   simp
theorem Q7e(hΓ:∀g cs,(g,cs)∈Γ->idsL isO cs)(t:Tr)(ht:okT t)(hsz:(listT [] t).length<=1048576):APure Tryz.prog Γ 39 [.one (.box (cNd t))] (.one (.sl 5 ((listT [] t).map cEx))):=by
 intro ou
 refine AFn.walk 7 tabOk Tryz.func39 rfl (by kernel_rfl) rfl rfl fun hou=>?_
 iterate 11 (first|((with_reducible refine oj ?_);refine zau ?_)|(with_reducible refine zst ?_)|((with_reducible refine Q0t ?_ ?_);rfl)|(with_reducible refine ok ?_;first|refine ACode.condT rfl ?_|refine ACode.condF rfl ?_))
 refine ACode.grow 0 0 75 5 rfl rfl ?_
 refine zA ?_
 refine AOps.cede 0 (show 0 < 2 by omega) fun ko hko=>⟨[(4,.one (.box (cNd t))),(3,.one (.ptr (.o ko) 0))],
  ⟨2, [(1, .tok 75 5 0)], updO ou ko (.cells [.gs 5 [] (.l 1)])⟩, ⟨CedFr.get ?_, rfl, fun i x hx => ?_⟩, ?_⟩
 ·exact .cons rfl (FV.sub_o _ (by simp)) (.cons rfl rfl .nil)
 ·have hko:ou ko=none:=hko
  cases i with
  |l m=>
   by_cases e:1=m
   ·subst e;cases hx;exact⟨.l 1,_,rfl,rfl,rfl⟩
   ·simp[St.get,lookL,Q08 e]at hx
  |o m=>
   have hx':updO ou ko (.cells [.gs 5 [] (.l 1)]) m=some x:=hx
   by_cases e:ko=m
   ·subst e;rw[Q03]at hx';cases hx';exact⟨.l 0,_,rfl,rfl,rfl⟩
   ·rw[Q05 _ e]at hx'
    exact⟨.o m,x,hx',rfl,(AObj.sub_o x (hou m x hx')).symm⟩
 have hko:ou ko=none:=hko
 refine AOps.cede 1 (show 1 < 2 by omega) fun kt hkt=>⟨[(4,.one (.box (cNd t))),(3,.one (.ptr (.o ko) 0))],
  ⟨2, [], ouS ou ko kt (([] : List Ex).map cEx)⟩, ⟨CedFr.get ?_, rfl, fun i x hx => ?_⟩, ?_⟩
 ·exact .cons rfl (FV.sub_o _ (by simp)) (.cons rfl rfl .nil)
 ·have hkt:updO ou ko (.cells [.gs 5 [] (.l 1)]) kt=none:=hkt
  have hkto:ko≠kt:=fun e=>by subst e;rw[Q03]at hkt;cases hkt
  cases i with
  |l m=>cases hx
  |o m=>
   have hx':ouS ou ko kt (([]:List Ex).map cEx) m=some x:=hx
   by_cases e:m=kt
   ·subst e;rw[ouS_t]at hx';cases hx';exact⟨.l 1,_,rfl,rfl,rfl⟩
   ·by_cases e2:m=ko
    ·subst e2;rw[ouS_o hkto]at hx';cases hx'
     exact⟨.o m,.cells [.gs 5 [] (.l 1)],Q03 _ _ _,rfl,rfl⟩
    ·rw[ouS_w e2 e]at hx'
     refine⟨.o m,x,?_,rfl,(AObj.sub_o x (hou m x hx')).symm⟩
     show updO ou ko (.cells [.gs 5 [] (.l 1)]) m=_
     rw[Q05 _ (Ne.symm e2)];exact hx'
 have hkt:updO ou ko (.cells [.gs 5 [] (.l 1)]) kt=none:=hkt
 have hot:ko≠kt:=fun e=>by subst e;rw[Q03]at hkt;cases hkt
 rw[Q05 _ hot]at hkt
 have hcall:=Qg7 hΓ t ht ou ko kt [] hou hko hkt hot hsz
 refine AOps.call1 hΓ rfl rfl rfl rfl rfl rfl rfl (by simp) (Qce hou (by simp)) hcall fun r ou' hq hids hou'=>?_
 obtain⟨rfl,kt',h1,h2,rfl⟩:=hq
 refine zA ?_
 refine zS (zLD rfl rfl (ouS_o h2 _) rfl) ?_
 refine AOps.wk 6 rfl (y:=.one (.sl 5 ((listT [] t).map cEx))) (.one (.gsE rfl)) ?_
 refine AOps.lessO ⟨2,[],ou⟩ rfl (fun i o ho=>?_) ?_
 ·cases i with
  |l m=>cases ho
  |o m=>
   have ho':ou m=some o:=ho
   show ouS ou ko kt' _ m=some o
   have e1:m≠ko:=fun e=>by rw[e,hko]at ho';cases ho'
   have e3:m≠kt':=fun e=>by rw[←e,ho']at h1;cases h1
   rw[ouS_w e1 e3];exact ho'
 refine zA ?_
 exact APure.fin rfl (WkF.ofEq rfl) (by simp) hou rfl
end Go.Proofs.YtkgjldchcbfpnaaGreatDoor
namespace Go.CoreX
def Q9o (e:List Ex)(k:Nat):Tr:=(growL e).getD k default
theorem Q6f{e:List Ex}(hk:Q15 e){i:Nat}{x:Ex}(hx:e[i]?=some x):Q9o e i=.mk x.op x.n x.binds (x.kids.map fun k=>Q9o e k.toNat) x.alts:=by
 have hi:=(List.getElem?_eq_some_iff.1 hx).1
 have hs:e=e.take i++x::e.drop (i+1):=by
  obtain⟨h2,h3⟩:=List.getElem?_eq_some_iff.1 hx
  rw[←h3,←List.drop_eq_getElem_cons h2,List.take_append_drop]
 have hl:(e.take i).length=i:=by simp;omega
 have h1:=Q67 (e.take i) (e.drop (i+1)) x
 rw[←hs,hl]at h1
 unfold Q9o
 rw[h1]
 simp only[Q2i,Tr.mk.injEq,true_and,and_true]
 refine List.map_congr_left fun k hkk=>?_
 have hb:=hk i x hx k hkk
 have h2:=Q3w (e:=e.take i) (l:=x::e.drop (i+1)) (i:=k.toNat) (by rw[hl];omega)
 rw[←hs]at h2
 exact h2.symm
end Go.CoreX
namespace Go.Proofs.YtkgjldchcbfpnaaGreatDoor
open Go Go.Abs Go.CoreX
variable {Γ:List (Nat×List AC)}
end Go.Proofs.YtkgjldchcbfpnaaGreatDoor
namespace Go.CoreX
mutual
def cntN:Tr->Nat
 |.mk _ _ _ k _=>cntNs k+1
def cntNs:List Tr->Nat
 |[]=>0
 |t::l=>cntN t+cntNs l
end
mutual
theorem Qaf:∀(t:Tr)(out:List Ex),(listT out t).length=out.length+cntN t
 |.mk o n b k a,out=>by
  have:=Q89 k out
  simp only[listT,cntN,List.length_append,List.length_singleton];omega
theorem Q89:∀(l:List Tr)(out:List Ex),(Q04 out l).1.length=out.length+cntNs l
 |[],out=>by simp[Q04,cntNs]
 |t::l,out=>by
  have h1:=Qaf t out
  have h2:=Q89 l (listT out t)
  simp only[Q04,cntNs];omega
end
end Go.CoreX
namespace Go.Proofs.YtkgjldchcbfpnaaGreatDoor
open Go Go.Abs Go.CoreX
variable {Γ:List (Nat×List AC)}
end Go.Proofs.YtkgjldchcbfpnaaGreatDoor
namespace Go.CoreX
end Go.CoreX
namespace Go.Proofs.YtkgjldchcbfpnaaGreatDoor
open Go Go.Abs Go.CoreX
variable {Γ:List (Nat×List AC)}
def ow8 (l:List Int):Option Nat->AC
 |none=>.lit (.slice none 0 0)
 |some cap=>.arr (.l 0) 1 0 (l.map cI).length cap
def st8 (l:List Int)(ou:Outer):Option Nat->St
 |none=>⟨0,[],ou⟩
 |some cap=>⟨1,[(0,.cells (vec 1 (l.map cI) cap))],ou⟩
def d8 (l:List Int)(ou:Outer):Option Nat->St
 |none=>st8 l ou none
 |some cap=>(st8 l ou (some cap)).set (.l 0) .dead
@[simp] theorem ids_ow8 (l l':List Int) (ou:Outer) (oc:Option Nat):(ow8 l oc).ids (inL (st8 l' ou oc).n):=by cases oc <;> simp[ow8,st8,AC.ids,inL]
end Go.Proofs.YtkgjldchcbfpnaaGreatDoor
namespace Go.CoreX
end Go.CoreX
namespace Go.Proofs.YtkgjldchcbfpnaaGreatDoor
open Go Go.Abs Go.CoreX
variable {Γ:List (Nat×List AC)}
end Go.Proofs.YtkgjldchcbfpnaaGreatDoor
namespace Go.CoreX
open Go.Abs (orI subI anI)
def ex0:Ex:=⟨0,0,[],[],[]⟩
def exN (e:List Ex)(i:Nat):Ex:=e.getD i ex0
def shK (e:List Ex)(k:Int):Tr:=.mk (exN e k.toNat).op (exN e k.toNat).n (exN e k.toNat).binds [] []
end Go.CoreX
namespace Go.Proofs.YtkgjldchcbfpnaaGreatDoor
open Go Go.Abs Go.CoreX
variable {Γ:List (Nat×List AC)}
def shD (e:List Ex)(l:List Int):List (List AC):=l.map fun k=>cB (shK e k)
@[simp] theorem ids_shD (p:Abs.Id->Prop) (e:List Ex) (l:List Int):idsS p (shD e l):=Q1t (fun k=>by simp[cB]) l
@[simp] theorem ren_shD (ρ:Nat->Nat) (e:List Ex) (l:List Int):renS ρ (shD e l)=shD e l:=Q1g ρ _ (by simp)
end Go.Proofs.YtkgjldchcbfpnaaGreatDoor
namespace Go.CoreX
end Go.CoreX
namespace Go.Proofs.YtkgjldchcbfpnaaGreatDoor
open Go Go.Abs Go.CoreX
variable {Γ:List (Nat×List AC)}
theorem W_ok(hΓ:∀g cs,(g,cs)∈Γ->idsL isO cs)(n:Int):APure Tryz.prog Γ 40 [.one (int n)] (.one (.box (cNd (.mk 1 n [] [] [])))):=by
 intro ou
 refine AFn.walk 5 tabOk Tryz.func40 rfl (by kernel_rfl) rfl rfl fun hou=>?_
 refine zA ?_
 refine AOps.callCW (ws:=[.one (int 1),.one (int n),.one (.sl 1 (Q2v []))]) hΓ (N_ok 1 n []) rfl rfl rfl rfl rfl rfl ?_ hou (by simp) ?_
 ·exact .cons (.refl _) (.cons (.refl _) (.cons (.one (.nilS 1)) .nil))
 refine zA ?_
 exact APure.fin rfl (WkF.ofEq rfl) (by simp) hou rfl
end Go.Proofs.YtkgjldchcbfpnaaGreatDoor
namespace Go.CoreX
abbrev Nb:=Option (Nat×Nat)
structure LAlt where
 tag:Int
 nb:Nb
 binds:List Int
def LAlt.er (a:LAlt):Alt:=⟨a.tag,a.binds⟩
inductive LTr where
 |mk (id:Nat) (op n:Int) (nb:Nb) (binds:List Int) (kids:List LTr) (alts:List LAlt)
instance:Inhabited LTr:=⟨.mk 0 0 0 none [] [] []⟩
def LTr.id:LTr->Nat|.mk i _ _ _ _ _ _=>i
mutual
def erT:LTr->Tr
 |.mk _ o n _ b k a=>.mk o n b (erTs k) (a.map LAlt.er)
def erTs:List LTr->List Tr
 |[]=>[]
 |t::ts=>erT t::erTs ts
end
theorem Qgw:∀l:List LTr,erTs l=l.map erT
 |[]=>rfl
 |t::l=>by simp[erTs,Qgw l]
end Go.CoreX
namespace Go.Proofs.YtkgjldchcbfpnaaGreatDoor
open Go Go.Abs Go.CoreX
variable {Γ:List (Nat×List AC)}
def bC:Nb->List Int->AC
 |none,l=>.sl 1 (l.map cI)
 |some (a,cap),l=>.arr (.o a) 1 0 (l.map cI).length cap
def lAlt (x:LAlt):List AC:=[int x.tag,bC x.nb x.binds]
def kC (l:List LTr):List (List AC):=l.map fun t=>[.ptr (.o t.id) 0]
abbrev keys (l:List (Nat×AObj)):List Nat:=l.map (·.1)
def Owns (ou:Outer)(l:List (Nat×AObj)):Prop:=∀p∈l,ou p.1=some p.2
theorem Owns.app{ou:Outer}{l r:List (Nat×AObj)}:Owns ou (l++r)↔Owns ou l/\Owns ou r:=by
 unfold Owns
 constructor
 ·exact fun h=>⟨fun p hp=>h p (by simp[hp]),fun p hp=>h p (by simp[hp])⟩
 ·rintro⟨h1,h2⟩ p hp
  rcases List.mem_append.1 hp with hp|hp
  ·exact h1 p hp
  ·exact h2 p hp
theorem Owns.frame{ou ou':Outer}{l:List (Nat×AObj)}(h:Owns ou l)(hf:∀j∈keys l,ou' j=ou j):Owns ou' l:=fun p hp=>(hf p.1 (List.mem_map_of_mem hp)).trans (h p hp)
theorem Qgh(p:Abs.Id->Prop)(hp:∀k,p (.o k))(nb:Nb)(l:List Int):(bC nb l).ids p:=by
 cases nb with
 |none=>simp[bC,AC.ids]
 |some x=>exact hp _
theorem ids_kC(p:Abs.Id->Prop)(hp:∀k,p (.o k))(l:List LTr):idsS p (kC l):=Q1t (f:=fun t:LTr=>[.ptr (.o t.id) 0]) (fun t=>by simp only[idsL,AC.ids,and_true];exact hp _) l
theorem Qa5(p:Abs.Id->Prop)(hp:∀k,p (.o k))(l:List LAlt):idsS p (l.map lAlt):=Q1t (f:=lAlt) (fun t=>by simp only[lAlt,idsL,AC.ids,and_true,true_and];exact Qgh p hp _ _) l
end Go.Proofs.YtkgjldchcbfpnaaGreatDoor
namespace Go.CoreX
def frB (f:Int)(l:List Int):List Int:=(List.range l.length).map fun i:Nat=>f+i
def frN (m:Nm)(f:Int)(l:List Int):Nm:=putsN m l (frB f l)
end Go.CoreX
namespace Go.Proofs.YtkgjldchcbfpnaaGreatDoor
open Go Go.Abs Go.CoreX
variable {Γ:List (Nat×List AC)}
end Go.Proofs.YtkgjldchcbfpnaaGreatDoor
namespace Go.CoreX
def rnAs (nm:Nm)(f:Int):List LAlt->List LAlt×Nm×Int
 |[]=>([],nm,f)
 |x::l=>(⟨x.tag,x.nb,frB f x.binds⟩::(rnAs (frN nm f x.binds) (f+x.binds.length) l).1,(rnAs (frN nm f x.binds) (f+x.binds.length) l).2)
def ren1 (o:Int)(nm:Nm)(f:Int)(b:List Int):List Int×Nm×Int:=if o=9 then (b,nm,f)else (frB f b,frN nm f b,f+b.length)
mutual
def rnL (nm:Nm)(f:Int):LTr->LTr×Nm×Int
 |.mk i o n nb b k a=>
  let s1:=ren1 o nm f b
  let s2:=rnAs s1.2.1 s1.2.2 a
  let s3:=rnLs s2.2.1 s2.2.2 k
  (.mk i o (if o=0 then (nm n).getD n else n) nb s1.1 s3.1 s2.1,s3.2)
def rnLs (nm:Nm)(f:Int):List LTr->List LTr×Nm×Int
 |[]=>([],nm,f)
 |t::l=>((rnL nm f t).1::(rnLs (rnL nm f t).2.1 (rnL nm f t).2.2 l).1,(rnLs (rnL nm f t).2.1 (rnL nm f t).2.2 l).2)
end
def ownB (nb:Nb)(b:List Int):Prop:=nb=none->b=[]
mutual
def okL:LTr->Prop
 |.mk _ o _ nb b k a=>(o≠9->ownB nb b)/\b.length<=1048576/\k.length<=1048576/\a.length<=1048576/\(∀x∈a,ownB x.nb x.binds/\x.binds.length<=1048576)/\okLs k
def okLs:List LTr->Prop
 |[]=>True
 |t::l=>okL t/\okLs l
end
theorem Qch:∀{l:List LTr},okLs l↔∀t∈l,okL t
 |[]=>by simp[okLs]
 |t::l=>by simp[okLs,Qch (l:=l)]
end Go.CoreX
namespace Go.Proofs.YtkgjldchcbfpnaaGreatDoor
open Go Go.Abs Go.CoreX
variable {Γ:List (Nat×List AC)}
theorem Q8y(l r:List (Nat×AObj)):keys (l++r)=keys l++keys r:=by simp[keys]
theorem Qi6{ou:Outer}{k:Nat}{os:List AObj}(h:OuOk ou)(ho:∀o∈os,o.ids isO):OuOk (ouAdd ou k os):=by
 intro m o hm
 rcases Nat.lt_or_ge m k with h1|h1
 ·rw[Q24 h1]at hm;exact h m o hm
 ·obtain⟨p,rfl⟩:∃p,m=k+p:=⟨m - k,by omega⟩
  rw[Q2q]at hm
  exact ho o (List.mem_of_getElem? hm)
structure NewO (ou ou':Outer)(L:List (Nat×AObj)):Prop where
 own:Owns ou' L
 new:∀k∈keys L,ou k=none
 old:∀m,m∉keys L->ou' m=ou m
 ok:OuOk ou'
 nd:(keys L).Nodup
theorem NewO.nil{ou:Outer}(h:OuOk ou):NewO ou ou []:=⟨fun p hp=>by simp at hp,fun k hk=>by simp[keys]at hk,fun _ _=>rfl,h,by simp[keys]⟩
theorem NewO.trans{ou ou1 ou2:Outer}{L M:List (Nat×AObj)}(h:NewO ou ou1 L)(k:NewO ou1 ou2 M):NewO ou ou2 (L++M):=by
 have hLM:∀j∈keys L,j∉keys M:=fun j hj hm=>by
  have h1:=k.new j hm
  obtain⟨p,hp,rfl⟩:=List.mem_map.1 hj
  rw[h.own p hp]at h1
  cases h1
 refine⟨Owns.app.2 ⟨h.own.frame fun j hj=>k.old j (hLM j hj),k.own⟩,fun j hj=>?_,fun m hm=>?_,k.ok,?_⟩
 ·rw[Q8y,List.mem_append]at hj
  by_cases e:j∈keys L
  ·exact h.new j e
  ·rw[←h.old j e]
   exact k.new j (hj.resolve_left e)
 ·rw[Q8y,List.mem_append,not_or]at hm
  rw[k.old m hm.2,h.old m hm.1]
 ·rw[Q8y,List.nodup_append]
  exact⟨h.nd,k.nd,fun a ha b hb e=>hLM a ha (e▸hb)⟩
end Go.Proofs.YtkgjldchcbfpnaaGreatDoor
namespace Go.CoreX
end Go.CoreX
namespace Go.Proofs.YtkgjldchcbfpnaaGreatDoor
open Go Go.Abs Go.CoreX
structure LinkL (e:List Ex)(lts:List LTr)(B:Nb->List Int->Prop:=ownB):Prop where
 len:lts.length=e.length
 at_:∀(i:Nat) (x:Ex),e[i]?=some x->∃id nb a,lts[i]?=some (.mk id x.op x.n nb x.binds (x.kids.map fun q=>lts.getD q.toNat default) a)/\a.map LAlt.er=x.alts/\B nb x.binds/\∀y∈a,B y.nb y.binds
theorem LinkL.nil{B:Nb->List Int->Prop}:LinkL [] [] B:=⟨rfl,fun i x h=>by simp at h⟩
section
variable {e:List Ex}{lts:List LTr}{B:Nb->List Int->Prop}
theorem LinkL.getD(h:LinkL e lts B){i:Nat}{t:LTr}(ht:lts[i]?=some t):lts.getD i default=t:=by rw[List.getD_eq_getElem?_getD,ht];rfl
theorem LinkL.er(h:LinkL e lts B)(hk:Q15 e):∀(n i:Nat)(t:LTr),i < n->lts[i]?=some t->erT t=Q9o e i
 |0,i,t,hi,_=>by omega
 |n+1,i,t,hi,ht=>by
  have hil:i < e.length:=by rw[←h.len];exact (List.getElem?_eq_some_iff.1 ht).1
  obtain⟨x,hx⟩:=Q01 hil
  obtain⟨id,nb,a,h1,h2,_⟩:=h.at_ i x hx
  rw[ht]at h1
  cases h1
  rw[Q6f hk hx]
  simp only[erT,h2,Qgw,List.map_map]
  congr 1
  refine List.map_congr_left fun q hq=>?_
  have hq':=hk i x hx q hq
  obtain⟨t',ht'⟩:=Q01 (l:=lts) (i:=q.toNat) (by rw[h.len];omega)
  simp only[Function.comp,h.getD ht']
  exact h.er hk n q.toNat t' (by omega) ht'
theorem LinkL.ok(h:LinkL e lts)(hk:Q15 e)(hs:∀x∈e,x.binds.length<=1048576/\x.kids.length<=1048576/\x.alts.length<=1048576/\∀a∈x.alts,a.binds.length<=1048576):∀(n i:Nat)(t:LTr),i < n->lts[i]?=some t->okL t
 |0,i,t,hi,_=>by omega
 |n+1,i,t,hi,ht=>by
  have hil:i < e.length:=by rw[←h.len];exact (List.getElem?_eq_some_iff.1 ht).1
  obtain⟨x,hx⟩:=Q01 hil
  obtain⟨id,nb,a,h1,h2,h3,h4⟩:=h.at_ i x hx
  obtain⟨s1,s2,s3,s4⟩:=hs x (List.mem_of_getElem? hx)
  rw[ht]at h1
  cases h1
  refine⟨fun _=>h3,s1,by simpa using s2,by have:=congrArg List.length h2;simp at this;omega,fun y hy=>⟨h4 y hy,?_⟩,Qch.2 fun u hu=>?_⟩
  ·exact s4 y.er (by rw[←h2];exact List.mem_map_of_mem hy)
  ·obtain⟨q,hq,rfl⟩:=List.mem_map.1 hu
   have hq':=hk i x hx q hq
   obtain⟨t',ht'⟩:=Q01 (l:=lts) (i:=q.toNat) (by rw[h.len];omega)
   rw[h.getD ht']
   exact h.ok hk hs n q.toNat t' (by omega) ht'
end
variable {Γ:List (Nat×List AC)}
def Qfs (ts:List LTr)(n:Nat):List AC:=ts.map (fun t=>.ptr (.o t.id) 0)++List.replicate (n - ts.length) (.lit (.pointer none))
theorem Q7w(p:Abs.Id->Prop)(hp:∀k,p (.o k))(ts:List LTr)(n:Nat):idsL p (Qfs ts n):=by
 refine Q66 ?_ (Qga p _ _)
 induction ts with
 |nil=>trivial
 |cons t ts ih=>exact⟨hp _,ih⟩
@[simp] theorem ids_nodesL_l (k:Nat) (ts:List LTr) (n:Nat):idsL (inL k) (Qfs ts n):=Q7w _ (fun _=>trivial) ts n
@[simp] theorem ids_nodesL_o (ts:List LTr) (n:Nat):idsL isO (Qfs ts n):=Q7w _ (fun _=>trivial) ts n
@[simp] theorem ids_kC_l (k:Nat) (ts:List LTr):idsS (inL k) (kC ts):=ids_kC _ (fun _=>trivial) ts
@[simp] theorem Qii (ts:List LTr):idsS isO (kC ts):=ids_kC _ (fun _=>trivial) ts
@[simp] theorem ids_lAlts_l (k:Nat) (l:List LAlt):idsS (inL k) (l.map lAlt):=Qa5 _ (fun _=>trivial) l
@[simp] theorem Qb8 (l:List LAlt):idsS isO (l.map lAlt):=Qa5 _ (fun _=>trivial) l
@[simp] theorem ids_bC_l (k:Nat) (nb:Nb) (l:List Int):(bC nb l).ids (inL k):=Qgh _ (fun _=>trivial) nb l
@[simp] theorem ids_bC_o (nb:Nb) (l:List Int):(bC nb l).ids isO:=Qgh _ (fun _=>trivial) nb l
@[simp] theorem ren_kC (ρ:Nat->Nat) (l:List LTr):renS ρ (kC l)=kC l:=Q1g ρ _ (Qii l)
@[simp] theorem ren_lAlts (ρ:Nat->Nat) (l:List LAlt):renS ρ (l.map lAlt)=l.map lAlt:=Q1g ρ _ (Qb8 l)
@[simp] theorem ren_bC (ρ:Nat->Nat) (nb:Nb) (l:List Int):(bC nb l).ren ρ=bC nb l:=by cases nb <;> simp[bC,AC.ren,Abs.Id.ren]
theorem NewO.add{ou:Outer}{k:Nat}{o:AObj}(hk:∀m,k<=m->ou m=none)(hou:OuOk ou)(ho:o.ids isO):NewO ou (ouAdd ou k [o]) [(k,o)]:=by
 refine⟨fun p hp=>?_,fun j hj=>?_,fun m hm=>?_,Qi6 hou fun q hq=>by simp at hq;subst hq;exact ho,by simp[keys]⟩
 ·simp at hp;subst hp
  exact Q2q 0
 ·simp[keys]at hj;subst hj;exact hk _ (Nat.le_refl _)
 ·simp[keys]at hm
  rcases Nat.lt_or_ge m k with h1|h1
  ·exact Q24 h1
  ·obtain⟨p,rfl⟩:∃p,m=k+p:=⟨m - k,by omega⟩
   rw[Q2q,hk _ h1]
   cases p with
   |zero=>simp at hm
   |succ p=>simp
end Go.Proofs.YtkgjldchcbfpnaaGreatDoor
namespace Go.CoreX
end Go.CoreX
namespace Go.Proofs.YtkgjldchcbfpnaaGreatDoor
open Go Go.Abs Go.CoreX
variable {Γ:List (Nat×List AC)}
end Go.Proofs.YtkgjldchcbfpnaaGreatDoor
namespace Go.CoreX
-- What holds of all nodes.
mutual
def allT (p:Lab->Prop):Tr->Prop
 |.mk o n b k a=>p ⟨o,n,b,k.map Tr.op,a⟩/\allTs p k
def allTs (p:Lab->Prop):List Tr->Prop
 |[]=>True
 |t::l=>allT p t/\allTs p l
end
theorem Q7c{p:Lab->Prop}:∀{l:List Tr},allTs p l↔∀t∈l,allT p t
 |[]=>by simp[allTs]
 |t::l=>by simp[allTs,Q7c (l:=l)]
theorem Qh8{e:List Ex}(hk:Q15 e){p:Lab->Prop}(h:∀x∈e,p (labE e x)):∀(n i:Nat),i < n->i < e.length->allT p (Q9o e i)
 |0,i,hi,_=>by omega
 |n+1,i,hi,hl=>by
  obtain⟨x,hx⟩:∃x,e[i]?=some x:=⟨e[i],List.getElem?_eq_getElem hl⟩
  rw[Q6f hk hx]
  refine⟨?_,Q7c.2 fun t ht=>?_⟩
  ·have:=h x (List.mem_of_getElem? hx)
   simp only[labE]at this
   simp only[List.map_map]
   exact this
  ·obtain⟨q,hq,rfl⟩:=List.mem_map.1 ht
   have:=hk i x hx q hq
   exact Qh8 hk h n q.toNat (by omega) (by omega)
theorem Qan{e:List Ex}(h:IsTree e){p:Lab->Prop}(hp:∀x∈e,p (labE e x)):allT p (grow e):=by
 have:=List.length_pos_iff.2 h.ne
 exact Qh8 h.k hp _ (e.length - 1) (Nat.lt_succ_self _) (by omega)
end Go.CoreX
namespace Go.CoreX
structure ShN (o n:Int)(b:List Int)(k:Nat)(a:List Alt):Prop where
 sh:∃ops:List Int,ops.length=k/\shape ⟨o,n,b,ops,a⟩=true
section
variable {o n:Int}{b:List Int}{k:Nat}{a:List Alt}
theorem ShN.want(h:ShN o n b k a)(h7:¬(o=7∨o=13)):∃w:Int×Int×Bool,(∃ops:List Int,ops.length=k/\wants ⟨o,n,b,ops,a⟩=some w)/\(k:Int)=w.1/\(b.length:Int)=w.2.1/\a=[]:=by
 obtain⟨ops,hl,h⟩:=h.sh
 unfold shape at h
 rw[if_neg h7]at h
 split at h
 ·cases h
 ·rename_i kk bb u hw
  simp only[Bool.and_eq_true,beq_iff_eq,List.length_eq_zero_iff]at h
  exact⟨_,⟨ops,hl,hw⟩,by rw[←hl];exact h.1.1.1,h.1.1.2,h.1.2⟩
theorem ShN.lam(h:ShN 2 n b k a):k=1/\a=[]:=by
 obtain⟨w,⟨ops,hl,hw⟩,h1,h2,h3⟩:=h.want (by omega)
 cases hw;exact⟨by simp at h1;omega,h3⟩
theorem ShN.app(h:ShN 3 n b k a):1<=k/\b=[]/\a=[]:=by
 obtain⟨w,⟨ops,hl,hw⟩,h1,h2,h3⟩:=h.want (by omega)
 cases hw
 refine⟨?_,List.length_eq_zero_iff.1 (by simp at h2;simp[h2]),h3⟩
 simp only at h1;split at h1 <;> omega
theorem ShN.lett(h:ShN 4 n b k a):k=2/\b.length=1/\a=[]:=by
 obtain⟨w,⟨ops,hl,hw⟩,h1,h2,h3⟩:=h.want (by omega)
 cases hw;exact⟨by simp at h1;omega,by simp at h2;omega,h3⟩
theorem ShN.recs(h:ShN 5 n b k a):k=b.length+1/\1<=b.length/\a=[]:=by
 obtain⟨w,⟨ops,hl,hw⟩,h1,h2,h3⟩:=h.want (by omega)
 cases hw
 refine⟨by simp at h1;omega,?_,h3⟩
 simp only at h2;split at h2 <;> omega
theorem ShN.prim(h:ShN 8 n b k a):0<=n/\n<=11/\(k:Int)=Q2k.getD n.toNat 0/\b=[]/\a=[]:=by
 obtain⟨w,⟨ops,hl,hw⟩,h1,h2,h3⟩:=h.want (by omega)
 have hw:(if between n 0 11=true then some (Q2k.getD n.toNat 0,(0:Int),true)else none)=some w:=hw
 split at hw
 ·rename_i hb
  cases hw
  simp[between]at hb
  exact⟨hb.1,hb.2,h1,List.length_eq_zero_iff.1 (by simp at h2;simp[h2]),h3⟩
 ·cases hw
theorem ShN.row(h:ShN 9 n b k a):k=b.length/\a=[]:=by
 obtain⟨w,⟨ops,hl,hw⟩,h1,h2,h3⟩:=h.want (by omega)
 cases hw;exact⟨by simp at h1;omega,h3⟩
theorem ShN.one(h:ShN o n b k a)(ho:o=10∨o=12∨o=16):k=1/\b=[]/\a=[]:=by
 obtain⟨w,⟨ops,hl,hw⟩,h1,h2,h3⟩:=h.want (by omega)
 rcases ho with rfl|rfl|rfl <;> (cases hw;exact⟨by simp at h1;omega,List.length_eq_zero_iff.1 (by simp at h2;simp[h2]),h3⟩)
theorem ShN.two(h:ShN 11 n b k a):k=2/\b=[]/\a=[]:=by
 obtain⟨w,⟨ops,hl,hw⟩,h1,h2,h3⟩:=h.want (by omega)
 cases hw;exact⟨by simp at h1;omega,List.length_eq_zero_iff.1 (by simp at h2;simp[h2]),h3⟩
theorem ShN.alts7(h:ShN o n b k a)(ho:o=7∨o=13):k=1+a.length/\b=[]/\(o=13->1<=a.length)/\∀i x,a[i]?=some x->Q42 ⟨o,n,b,[],a⟩ i x=false:=by
 obtain⟨ops,hl,h⟩:=h.sh
 unfold shape at h
 rw[if_pos ho]at h
 simp only[Bool.and_eq_true,beq_iff_eq,List.length_eq_zero_iff]at h
 obtain⟨⟨h1,h2⟩,h3⟩:=h
 unfold Q62 at h1
 simp only[Bool.and_eq_true,Bool.not_eq_true',beq_iff_eq,Bool.or_eq_true,decide_eq_true_eq]at h1
 obtain⟨h4,h5,h6⟩:=h1
 refine⟨by omega,h2,fun h13=>?_,fun i x hx=>?_⟩
 ·rcases h6 with h6|h6
  ·subst h13;cases h6
  ·omega
 ·rw[List.any_eq_false]at h4
  have:=h4 (x,i) (by rw[List.mk_mem_zipIdx_iff_getElem?];exact hx)
  simpa[Q42]using this
theorem ShN.case(h:ShN 7 n b k a):k=1+a.length/\b=[]:=⟨(h.alts7 (.inl rfl)).1,(h.alts7 (.inl rfl)).2.1⟩
theorem ShN.handle(h:ShN 13 n b k a):k=1+a.length/\b=[]/\1<=a.length/\∀i x,a[i]?=some x->(i=0↔x.tag=-1)/\x.binds.length=if i=0 then 1 else 2:=by
 obtain⟨h1,h2,h3,h4⟩:=h.alts7 (.inr rfl)
 refine⟨h1,h2,h3 rfl,fun i x hx=>?_⟩
 have:=h4 i x hx
 simp only[Q42,Bool.or_eq_false_iff,Bool.and_eq_false_iff,Bool.not_eq_false',beq_iff_eq,beq_eq_false_iff_ne]at this
 obtain⟨_,h5,h6⟩:=this
 refine⟨?_,?_⟩
 ·rcases h5 with h5|h5
  ·exact absurd rfl h5
  ·by_cases hi:i=0
   ·subst hi;simpa using h5
   ·have:((i:Int)==0)=false:=by simp[hi]
    rw[this]at h5
    simp[hi]at h5 ⊢;exact h5
 ·rcases h6 with h6|h6
  ·exact absurd rfl h6
  ·split at h6
   ·rw[if_neg (by omega)];omega
   ·rename_i hh
    have:i=0∨i=1:=by omega
    rcases this with rfl|rfl <;> simp <;> omega
end
def shpQ (l:Lab):Prop:=ShN l.op l.n l.binds l.ops.length l.alts
theorem Qez{t:Tr}(h:allT shpQ t):ShN t.op t.n t.binds t.kids.length t.alts:=by
 cases t with
 |mk o n b k a=>simpa[shpQ]using h.1
theorem Qj2{p:Lab->Prop}{t s:Tr}(h:allT p t)(hs:s∈t.kids):allT p s:=by
 cases t with
 |mk o n b k a=>exact Q7c.1 h.2 s hs
theorem Q2n{p:Lab->Prop}{t:Tr}(h:allT p t){i:Nat}(hi:i < t.kids.length):allT p (t.kids.getD i default):=by
 rw[List.getD_eq_getElem?_getD,List.getElem?_eq_getElem hi]
 exact Qj2 h (List.getElem_mem hi)
theorem Q0w{p:Lab->Prop}{t:Tr}(h:allT p t):p ⟨t.op,t.n,t.binds,t.kids.map Tr.op,t.alts⟩:=by
 cases t with
 |mk o n b k a=>exact h.1
mutual
theorem Qda{p q:Lab->Prop}(h:∀l,p l->q l):∀t:Tr,allT p t->allT q t
 |.mk o n b k a,ht=>⟨h _ ht.1,Qam h k ht.2⟩
theorem Qam{p q:Lab->Prop}(h:∀l,p l->q l):∀l:List Tr,allTs p l->allTs q l
 |[],_=>trivial
 |t::l,ht=>⟨Qda h t ht.1,Qam h l ht.2⟩
end
theorem Qey{l:Lab}(h:shape ⟨l.op,l.n,l.binds,l.ops,l.alts⟩=true):shpQ l:=⟨⟨l.ops,rfl,h⟩⟩
end Go.CoreX
namespace Go.CoreX
-- Names that a tree does not bind keep their new names.
end Go.CoreX
namespace Go.CoreX
def tl (a:Alt):Int×Nat:=(a.tag,a.binds.length)
end Go.CoreX
