/- provenanceref2.Grow and Most, walked. -/
import Derived.Test.YtpaonemmbhbgoaaGreatDoorV11
import Derived.LaidEqlPtr
set_option maxRecDepth 10000
set_option linter.unusedVariables false
set_option linter.unusedSimpArgs false
namespace Go.Abs
theorem AStep.weak{E:Env}{o:Oper}{fr:Fr}{σ σ':St}{x y:FV}(h:AStep E o fr σ x σ')(hw:WkF x y):AStep E o fr σ y σ':=
 fun F w C tmps hi hf next Q hk=>h F w C tmps hi hf next Q fun u w' C' hg hi' hr=>hk u w' C' hg hi' (hw _ _ _ hr)
end Go.Abs
namespace Go.Proofs.YtpaonemmbhbgoaaGreatDoor
open Go Go.Abs Go.CoreX
variable {Γ:List (Nat×List AC)}
def cNB (t:Tr):List AC:=[.box (cNd t)]
@[simp] theorem ids_cNBl (k:Nat) (l:List Tr):idsS (inL k) (l.map cNB):=Q2c (f:=cNB) (fun t=>by simp[cNB]) l
@[simp] theorem Qnz (l:List Tr):idsS isO (l.map cNB):=Q2c (f:=cNB) (fun t=>by simp[cNB]) l
theorem ren_cNB(ρ:Nat->Nat)(l:List Tr):renS ρ (l.map cNB)=l.map cNB:=Q1w _ _ (Qnz l)
def gN (e:List Ex)(j:Nat):List Tr:=growL (e.take j)
def kN (e:List Ex)(j:Nat)(x:Ex)(i:Nat):List Tr:=kidsT (growL (e.take j)) (x.kids.take i)
theorem Qoo(hΓ:∀g cs,(g,cs)∈Γ->idsL isO cs)(e:List Ex)(he:okE e)(hin:Q0p e)(hne:e≠[]):APure Tryz.prog Γ 18 [.one (.sl 5 (e.map cEx))] (.one (.box (cNd (grow e)))):=by
 have hel:=he.l
 intro ou
 refine AFn.walk 50 tabOk Tryz.func18 rfl (by kernel_rfl) rfl rfl fun hou=>?_
 refine zA ?_
 refine ACode.growS 3 27 1 rfl ?_
 refine ACode.loopR hΓ (α:=Nat) (fun j=>[(11,.one (int j)),(10,.one (int (e.map cEx).length)),(9,.one (.sl 5 (e.map cEx))),(3,.one (.gs 1 ((gN e j).map cNB) (.l 0)))])
  (fun j=>⟨1,[(0,.tok 27 1 j)],ou⟩) (fun m j=>j<=e.length/\m=e.length - j) (a0:=0) (ρ:=id) ⟨by omega,rfl⟩ (LessR.of rfl ?_ (by simp) zLO rfl rfl hou) fun m j hj=>?_
 ·exact FrSub.cons rfl (.ofEq rfl) (FrSub.cons rfl (.ofEq rfl) (FrSub.consP rfl (.ofEq rfl) (by simp) (FrSub.cons rfl (.ofEq rfl) .nil)))
 obtain⟨hjl,rfl⟩:=hj
 refine zA ?_
 refine ACode.cond rfl (fun hb2=>?_) (fun hb2=>?_)
 ·have hlt:j < e.length:=by simpa using hb2
  obtain⟨x,hx⟩:=Q00 hlt
  have hxo:=he.x x (List.mem_of_getElem? hx)
  have hxk:=hxo.k
  have hxin:=hin j x hx
  have hgl:(gN e j).length=j:=by unfold gN;rw[Q0c];simp;omega
  refine zA ?_
  refine zS (zIA rfl rfl rfl (by omega) (Q05 hx)) ?_
  refine zA ?_
  refine ACode.grow 2 5 27 1 rfl rfl ?_
  refine ACode.loopR hΓ (α:=Nat) (fun i=>[(21,.one (int i)),(20,.one (int (x.kids.map cI).length)),(19,.one (.sl 1 (x.kids.map cI))),(6,.one (.ptr (.l 2) 0)),(11,.one (int j)),(10,.one (int (e.map cEx).length)),(9,.one (.sl 5 (e.map cEx))),(3,.one (.gs 1 ((gN e j).map cNB) (.l 0)))])
   (fun i=>⟨4,[(3,.tok 27 1 i),(2,.cells [int x.op,int x.n,.sl 1 (x.binds.map cI),.sl 1 (x.kids.map cI),.sl 2 (x.alts.map cAlt),.gs 1 ((kN e j x i).map cNB) (.l 3)]),(0,.tok 27 1 j)],ou⟩)
   (fun m i=>i<=x.kids.length/\m=x.kids.length - i) (a0:=0) (ρ:=id) ⟨by omega,rfl⟩ (LessR.of rfl ?_ (by simp) ?_ rfl rfl hou) fun m i hi=>?_
  ·exact zfc (zfc (zfp (zfc (zfc (zfc (zfp (FrSub.consGs rfl rfl (by simp) .nil)))))))
  ·repeat' first|exact LoSub.nil|refine zlc ?_|refine zld ?_ ?_|rfl
   all_goals (simp[AObj.ren,renL,AC.ren,kN,kidsT];rfl)
  obtain⟨hil,rfl⟩:=hi
  refine zA ?_
  refine ACode.cond rfl (fun hb3=>?_) (fun hb3=>?_)
  ·have hlt2:i < x.kids.length:=by simpa using hb3
   obtain⟨k,hk⟩:=Q00 hlt2
   have hkb:=hxin k (List.mem_of_getElem? hk)
   obtain⟨k',rfl⟩:∃k':Nat,k=k':=⟨k.toNat,by omega⟩
   obtain⟨tk,htk⟩:=Q00 (l:=gN e j) (i:=k') (by omega)
   have htd:(growL (e.take j)).getD (k':Int).toNat default=tk:=by rw[Int.toNat_natCast,List.getD_eq_getElem?_getD];unfold gN at htk;rw[htk];rfl
   have hks:kN e j x (i+1)=kN e j x i++[tk]:=by unfold kN;rw[Qb2 hk,htd]
   have hkl:((kN e j x i).map cNB).length=i:=by simp[kN,kidsT];omega
   refine zA ?_
   refine zS (zIA rfl rfl rfl (by omega) (Q05 hk)) ?_
   refine zA ?_
   refine ACode.drawXH (va:=.one (.gs 1 ((kN e j x i).map cNB++[cNB tk]) (.l 4))) (σ1:=((St.mk 4 [(3,.tok 27 1 i),(2,.cells [int x.op,int x.n,.sl 1 (x.binds.map cI),.sl 1 (x.kids.map cI),.sl 2 (x.alts.map cAlt),.gs 1 ((kN e j x i).map cNB) (.l 3)]),(0,.tok 27 1 j)] ou).set (.l 3) .dead).push (.tok 27 1 ((kN e j x i).map cNB++[cNB tk]).length))
    tabOk 11 10 [(5,.one (.sl 1 ((gN e j).map cNB))),(7,.one (.box (cNB tk)))] follows (by kernel_rfl) rfl rfl rfl rfl rfl rfl rfl ?_ ?_ ?_ ?_
   ·refine HStep.plain rfl (AStep.append (s:=1) (es:=(kN e j x i).map cNB) (news:=[cNB tk]) (ti:=ti75) (σ:=⟨4,[(3,.tok 27 1 i),(2,.cells [int x.op,int x.n,.sl 1 (x.binds.map cI),.sl 1 (x.kids.map cI),.sl 2 (x.alts.map cAlt),.gs 1 ((kN e j x i).map cNB) (.l 3)]),(0,.tok 27 1 j)],ou⟩) tabOk rfl rfl rfl rfl rfl rfl (Base.gs' _ 27 1 ((kN e j x i).map cNB) (.l 3) rfl hkl.symm) (.sl _ _) rfl ?_ ?_)
    ·rw[hkl];show (i+1) * 8<=_;omega
    ·rw[hkl];show i+1<=_;omega
   ·refine .step rfl (zHP ((AStep.ofOp tabOk rfl).weak (.one (.gsE rfl)))) ?_
    exact .step rfl (zHP (zIA rfl rfl rfl (by omega) (Q05 htk))) .nil
   ·refine .step rfl (zHP ((AStep.ofOp tabOk rfl).weak (.one (.gsE rfl)))) ?_
    exact .step rfl (zHP (zIA rfl rfl rfl (by omega) (Q05 htk))) .nil
   refine zM ?_
   refine cInv ⟨x.kids.length - (i+1),i+1,fun k=>if k=3 then 4 else k,by omega,⟨by omega,rfl⟩,LessR.of rfl ?_ (by simp) ?_ rfl rfl hou⟩
   ·exact zfc (zfc (zfp (zfc (zfc (zfc (zfp (FrSub.consGs rfl rfl (by simp) .nil)))))))
   ·repeat' first|exact LoSub.nil|refine zlc ?_|refine zld ?_ ?_|rfl
    ·simp only[AObj.ren,List.length_append,hkl];rfl
    ·rw[hks];simp only[AObj.ren,renL,AC.ren,Q76,ren_cNB,Q6c];rw[List.map_append];rfl
    all_goals skip
  have hlt2:i=x.kids.length:=by simp at hb3;omega
  subst hlt2
  repeat ((fail_if_success ((with_reducible refine oj ?_);refine AOps.atDst 41 rfl ?_));first|refine zO ?_)
  refine AOps.freeze1 (.l 2) 40 rfl rfl ?_
  have hkn:kN e j x x.kids.length=kidsT (growL (e.take j)) x.kids:=by unfold kN;rw[List.take_length]
  refine AOps.wk 40 rfl (y:=.one (.box (cNd (Q1m (growL (e.take j)) x)))) (.one (Wk.box ?_)) ?_
  ·rw[Qe7]
   exact .cons (.refl _) (.cons (.refl _) (.cons (.refl _) (.cons (.any _) (.cons (.refl _) (.cons (.gsE (by rw[hkn,Tr.kids_mk,Q3i];rfl)) .nil)))))
  have hsn:gN e (j+1)=gN e j++[Q1m (growL (e.take j)) x]:=by unfold gN;rw[Q11 hx,Q22]
  generalize Q1m (growL (e.take j)) x=nd at hsn
  refine zA ?_
  refine AOps.app tabOk rfl rfl rfl rfl rfl rfl rfl rfl rfl (Base.gs' _ 27 1 _ _ rfl (by simp[hgl])) (.sl 1 [cNB nd]) rfl ?_ ?_ ?_
  ·simp[hgl];show (j+1) * 8<=_;omega
  ·simp[hgl];omega
  refine zM ?_
  have hcn:(gN e (j+1)).map cNB=(gN e j).map cNB++[cNB nd]:=by rw[hsn,List.map_append];rfl
  refine cInv ⟨e.length - (j+1),j+1,fun k=>if k=0 then 4 else k,by omega,⟨by omega,rfl⟩,?_⟩
  simp only[hcn]
  refine LessR.of rfl (zfc (zfc (zfp (FrSub.consGs rfl rfl (by rw[←hcn];simp) .nil)))) (by rw[←hcn];simp) ?_ rfl rfl hou
  exact LoSub.cons rfl (by simp only[AObj.ren,List.length_append,List.length_map,hgl];rfl) rfl (by simp) .nil
 ·have hlt:j=e.length:=by simp at hb2;omega
  subst hlt
  have hg:gN e e.length=growL e:=by unfold gN;rw[List.take_length]
  obtain⟨M,hM⟩:∃M,e.length=M+1:=⟨e.length - 1,by have:=List.length_pos_iff.2 hne;omega⟩
  obtain⟨t,ht⟩:=Q00 (l:=growL e) (i:=M) (by rw[Q0c];omega)
  have hgt:grow e=t:=by unfold grow;rw[hM,Nat.add_sub_cancel,List.getD_eq_getElem?_getD,ht];rfl
  repeat ((fail_if_success ((with_reducible refine oj ?_);refine AOps.atDst 44 rfl ?_));first|refine zO ?_)
  refine AOps.wk 3 rfl (y:=.one (.sl 1 ((growL e).map cNB))) (.one (.gsE (by rw[hg]))) ?_
  refine zM ?_
  have hgle:=Q0c e
  refine AOps.wk 46 rfl (y:=.one (int ((M+1:Nat):Int))) (.ofEq (by rw[List.length_map,hgle,hM])) ?_
  refine zM ?_
  refine AOps.wk 47 rfl (y:=.one (int (M:Nat))) (.ofEq (by congr 3;omega)) ?_
  refine zS (zIA rfl rfl rfl (by omega) (Q05 ht)) ?_
  refine zA ?_
  refine APure.fin rfl (WkF.ofEq ?_) (by simp) hou rfl
  rw[hgt]
end Go.Proofs.YtpaonemmbhbgoaaGreatDoor
namespace Go.CoreX
def upMax (m:Int)(l:List Int):Int:=l.foldl (fun m n=>if n > m then n else m) m
def mostB (e:List Ex):Int:=upMax (-1) (Q04 e)
theorem Qdc(m:Int)(l r:List Int):upMax m (l++r)=upMax (upMax m l) r:=by simp[upMax]
theorem Qby:∀(l:List Int)(m:Int),m<=upMax m l
 |[],m=>Int.le_refl _
 |n::l,m=>by
  have:=Qby l (if n > m then n else m)
  simp only[upMax,List.foldl_cons]at this ⊢
  split at this <;> rename_i h <;> simp only[h,if_true,if_false] <;> omega
theorem Qdb:∀(l:List Int)(m:Int),∀n∈l,n<=upMax m l
 |x::l,m,n,h=>by
  have h1:=Qby l (if x > m then x else m)
  rcases List.mem_cons.1 h with rfl|h
  ·simp only[upMax,List.foldl_cons]at h1 ⊢
   split at h1 <;> rename_i h2 <;> simp only[h2,if_true,if_false] <;> omega
  ·exact Qdb l _ n h
end Go.CoreX
namespace Go.Proofs.YtpaonemmbhbgoaaGreatDoor
open Go Go.Abs Go.CoreX
variable {Γ:List (Nat×List AC)}
def mB (e:List Ex)(j:Nat):Int:=upMax (-1) (Q04 (e.take j))
theorem Qom(hΓ:∀g cs,(g,cs)∈Γ->idsL isO cs)(e:List Ex)(he:okB e):APure Tryz.prog Γ 14 [.one (.sl 5 (e.map cEx))] (.one (int (mostB e))):=by
 have hel:=he.eo.l
 intro ou
 refine AFn.walk 27 tabOk Tryz.func14 rfl (by kernel_rfl) rfl rfl fun hou=>?_
 refine zA ?_
 refine ACode.loopR hΓ (α:=Nat) (fun j=>[(10,.one (int j)),(9,.one (int (e.map cEx).length)),(8,.one (.sl 5 (e.map cEx))),(3,.one (int (mB e j)))])
  (fun j=>⟨0,[],ou⟩) (fun m j=>j<=e.length/\m=e.length - j) (a0:=0) (ρ:=id) ⟨by omega,rfl⟩ (LessR.of rfl zFS (by simp) zLO rfl rfl hou) fun m j hj=>?_
 obtain⟨hjl,rfl⟩:=hj
 refine zA ?_
 refine ACode.cond rfl (fun hb2=>?_) (fun hb2=>?_)
 ·have hlt:j < e.length:=by simpa using hb2
  obtain⟨x,hx⟩:=Q00 hlt
  have hxm:=List.mem_of_getElem? hx
  have hsn:mB e (j+1)=upMax (mB e j) (Q07 x):=by unfold mB;rw[Q2e hx,Q04,Q04,List.flatMap_append,Qdc];simp
  refine zA ?_
  refine zS (zIA rfl rfl rfl (by omega) (Q05 hx)) ?_
  refine zA ?_
  refine AOps.callC hΓ (Qn0 hΓ x (he.eo.x x hxm) (he.b x hxm)) rfl rfl rfl rfl rfl rfl rfl hou (by simp[cEx]) ?_
  refine zA ?_
  refine ACode.loopR hΓ (α:=Nat) (fun i=>[(17,.one (int i)),(16,.one (int ((Q07 x).map cI).length)),(15,.one (.sl 1 ((Q07 x).map cI))),(10,.one (int j)),(9,.one (int (e.map cEx).length)),(8,.one (.sl 5 (e.map cEx))),(3,.one (int (upMax (mB e j) ((Q07 x).take i))))])
   (fun i=>⟨0,[],ou⟩) (fun m i=>i<=(Q07 x).length/\m=(Q07 x).length - i) (a0:=0) (ρ:=id) ⟨by omega,rfl⟩ (LessR.of rfl zFS (by simp) zLO rfl rfl hou) fun m i hi=>?_
  obtain⟨hil,rfl⟩:=hi
  have hbl:=(he.ex x hxm).1
  refine zA ?_
  refine ACode.cond rfl (fun hb3=>?_) (fun hb3=>?_)
  ·have hlt2:i < (Q07 x).length:=by simpa using hb3
   obtain⟨n,hn⟩:=Q00 hlt2
   have hsm:upMax (mB e j) ((Q07 x).take (i+1))=if n > upMax (mB e j) ((Q07 x).take i)then n else upMax (mB e j) ((Q07 x).take i):=by rw[Q11 hn,Qdc];rfl
   refine zA ?_
   refine zS (zIA rfl rfl rfl (by omega) (Q05 hn)) ?_
   refine zM ?_
   refine cInv ⟨(Q07 x).length - (i+1),i+1,id,by omega,⟨by omega,rfl⟩,?_⟩
   simp only[hsm]
   exact LessR.of rfl zFS (by simp) zLO rfl rfl hou
  have hlt2:i=(Q07 x).length:=by simp at hb3;omega
  subst hlt2
  rw[List.take_length,←hsn]
  refine zM ?_
  exact cInv ⟨e.length - (j+1),j+1,id,by omega,⟨by omega,rfl⟩,LessR.of rfl zFS (by simp) zLO rfl rfl hou⟩
 ·have hlt:j=e.length:=by simp at hb2;omega
  subst hlt
  refine zA ?_
  refine APure.fin rfl (WkF.ofEq ?_) (by simp) hou rfl
  unfold mB mostB;rw[List.take_length]
end Go.Proofs.YtpaonemmbhbgoaaGreatDoor
namespace Go.CoreX
theorem Qgo{e:List Ex}{x:Ex}(h:Q0g false e x=0):∀b∈Q07 x,b<=1048575:=by
 have hr:ranges x=0:=by
  unfold Q0g at h
  split at h
  ·cases h
  ·unfold Q1b at h
   split at h
   ·cases h
   ·split at h
    ·rename_i hr;exact absurd h hr
    ·rename_i hr;simpa using hr
 have hx:x.binds.all Q2s=true/\x.alts.all (Q36 x.op)=true:=by
  unfold ranges at hr
  split at hr
  ·cases hr
  split at hr
  ·cases hr
  rename_i h1
  split at hr
  ·cases hr
  rename_i h2
  exact⟨by simpa using h1,by simpa using h2⟩
 have ok:∀n,Q2s n=true->n<=1048575:=fun n hn=>by
  simp[Q2s,between]at hn;omega
 intro b hb
 unfold Q07 Q08 at hb
 rcases List.mem_append.1 hb with hb|hb
 ·split at hb
  ·exact ok b (List.all_eq_true.1 hx.1 b hb)
  ·cases hb
 ·obtain⟨a,ha,hba⟩:=List.mem_flatMap.1 hb
  have:=List.all_eq_true.1 hx.2 a ha
  unfold Q36 at this
  exact ok b (List.all_eq_true.1 (Bool.and_eq_true_iff.1 this).2 b hba)
theorem Qh1:∀(l:List Int)(m B:Int),m<=B->(∀n∈l,n<=B)->upMax m l<=B
 |[],m,B,h,_=>h
 |x::l,m,B,h,hl=>by
  show upMax (if x > m then x else m) l<=B
  exact Qh1 l _ B (by split;exact hl x (by simp);exact h) fun n hn=>hl n (by simp[hn])
theorem Qfx{e:List Ex}(h:check e=0):-1<=mostB e/\mostB e<=1048575:=by
 obtain⟨_,p2,_,_⟩:=Q1j h
 refine⟨Qby _ _,Qh1 _ _ _ (by omega) fun n hn=>?_⟩
 obtain⟨x,hx,hnx⟩:=List.mem_flatMap.1 hn
 exact Qgo (p2 x hx) n hnx
end Go.CoreX
namespace Go.Proofs.YtpaonemmbhbgoaaGreatDoor
open Go Go.Abs Go.CoreX
end Go.Proofs.YtpaonemmbhbgoaaGreatDoor
namespace Go.CoreX
end Go.CoreX
namespace Go.CoreX
end Go.CoreX
namespace Go.Proofs.YtpaonemmbhbgoaaGreatDoor
open Go Go.Abs Go.CoreX
variable {Γ:List (Nat×List AC)}
end Go.Proofs.YtpaonemmbhbgoaaGreatDoor
namespace Go.CoreX
end Go.CoreX
namespace Go.Proofs.YtpaonemmbhbgoaaGreatDoor
open Go Go.Abs Go.CoreX
variable {Γ:List (Nat×List AC)}
end Go.Proofs.YtpaonemmbhbgoaaGreatDoor
namespace Go.CoreX
end Go.CoreX
namespace Go.Proofs.YtpaonemmbhbgoaaGreatDoor
open Go Go.Abs Go.CoreX
variable {Γ:List (Nat×List AC)}
end Go.Proofs.YtpaonemmbhbgoaaGreatDoor
namespace Go.CoreX
end Go.CoreX
namespace Go.Proofs.YtpaonemmbhbgoaaGreatDoor
open Go Go.Abs Go.CoreX
variable {Γ:List (Nat×List AC)}
theorem Q6m{e:List Ex}{i:Nat}(h:i < e.length):(growL e)[i]?=some (Q06 e i):=by
 unfold Q06
 have:i < (growL e).length:=by rw[Q0c];exact h
 rw[List.getD_eq_getElem?_getD,List.getElem?_eq_getElem this];rfl
end Go.Proofs.YtpaonemmbhbgoaaGreatDoor
namespace Go.CoreX
theorem Qe9{flat:Bool}{e f:List Ex}{x y:Ex}(hx:∀k∈x.kids,0<=k/\k < (e.length:Int))(hy:∀k∈y.kids,0<=k/\k < (f.length:Int))(ho:x.op=y.op)(hn:x.n=y.n)(hb:x.binds=y.binds)(ha:x.alts=y.alts)(hl:x.kids.length=y.kids.length)
  (h2:∀i:Nat,((x.kids.map fun k=>(Q06 e k.toNat).op)[i]?)=some 2->((y.kids.map fun k=>(Q06 f k.toNat).op)[i]?)=some 2) (h:Q0g flat e x=0):Q0g flat f y=0:=by
 obtain⟨o,n,b,kx,a⟩:=x
 obtain⟨o',n',b',ky,a'⟩:=y
 dsimp only at ho hn hb ha hl hx hy h2
 subst ho hn hb ha
 unfold Q0g Q1b at h ⊢
 dsimp only at h ⊢
 rw[←Q8t hl,←Qap hl]
 split at h
 ·cases h
 rename_i h0
 rw[if_neg h0]
 cases hs:shape ⟨o,n,b,kx,a⟩ with
 |false=>rw[hs]at h;simp at h
 |true=>
  rw[hs]at h
  rw[if_neg (by simp)]at h ⊢
  split at h
  ·rename_i h1;exact absurd h h1
  rename_i h1
  rw[if_neg h1]
  have hb:(List.range b.length).any (Q14 f ⟨o,n,b,ky,a⟩)=false:=by
   rw[List.any_eq_false]
   intro i hi
   have hi:i < b.length:=by simpa using hi
   split at h
   ·cases h
   rename_i h3
   have h3:Q14 e ⟨o,n,b,kx,a⟩ i=false:=by
    have h4:(List.range b.length).any (Q14 e ⟨o,n,b,kx,a⟩)=false:=by simpa using h3
    rw[List.any_eq_false]at h4
    simpa using h4 i (by simpa using hi)
   unfold Q14 at h3 ⊢
   dsimp only at h3 ⊢
   by_cases h5:o=5
   ·have hr:=Qam hs h5
    simp only at hr
    obtain⟨k,g1⟩:∃k,kx[i]?=some k:=⟨kx[i]'(by omega),List.getElem?_eq_getElem _⟩
    obtain⟨m,g2⟩:∃k,ky[i]?=some k:=⟨ky[i]'(by omega),List.getElem?_eq_getElem _⟩
    have k1:=hx k (List.mem_of_getElem? g1)
    have k2:=hy m (List.mem_of_getElem? g2)
    have e1:kx.getD i 0=k:=by rw[List.getD_eq_getElem?_getD,g1];rfl
    have e2:ky.getD i 0=m:=by rw[List.getD_eq_getElem?_getD,g2];rfl
    have h6:=h2 i
    rw[List.getElem?_map,List.getElem?_map,g1,g2]at h6
    have o1:=Q97 e k.toNat (by omega)
    have o2:=Q97 f m.toNat (by omega)
    simp only[Option.map_some,Option.some.injEq]at h6
    rw[e1,←o1]at h3
    rw[e2,←o2]
    change (o==5&&!((Q06 e k.toNat).op==2)||_)=false at h3
    change ¬(o==5&&!((Q06 f m.toNat).op==2)||_)=true
    simp only[h5]at h3 ⊢
    simp at h3 ⊢
    exact h6 h3
   ·have h7:(o==5)=false:=by simpa using h5
    rw[h7]at h3 ⊢
    simpa using h3
  rw[hb];simp
-- The tree with the let left out.
mutual
inductive DropR (L D:Tr):Tr->Tr->Prop
 |here:DropR L D L D
 |node {o n:Int}{b:List Int}{a:List Alt}{ks ks':List Tr}(h:DropRs L D ks ks'):DropR L D (.mk o n b ks a) (.mk o n b ks' a)
inductive DropRs (L D:Tr):List Tr->List Tr->Prop
 |nil:DropRs L D [] []
 |cons {t t':Tr}{l l':List Tr}(h:DropR L D t t') (k:DropRs L D l l'):DropRs L D (t::l) (t'::l')
end
theorem Qbh{L D:Tr}(f g:Int->Tr):∀l:List Int,(∀q∈l,DropR L D (f q) (g q))->DropRs L D (l.map f) (l.map g)
 |[],_=>.nil
 |q::l,h=>.cons (h q (by simp)) (Qbh f g l fun q hq=>h q (by simp[hq]))
theorem Qis{e:List Ex}(hk:Q0p e)(p:Nat)(D:Tr):∀(n j:Nat),j < n->j < e.length->DropR (Q06 e p) D (Q06 e j) ((Q1e e p D).getD j default)
 |0,j,h,_=>by omega
 |n+1,j,h,hj=>by
  obtain⟨x,hx⟩:∃x,e[j]?=some x:=⟨e[j],List.getElem?_eq_getElem hj⟩
  rw[Q4g hk p D hx]
  by_cases hp:j=p
  ·rw[if_pos hp,hp];exact .here
  ·rw[if_neg hp,Q2d hk hx]
   refine .node (Qbh _ _ _ fun q hq=>?_)
   have:=hk j x hx q hq
   exact Qis hk p D n q.toNat (by omega) (by omega)
mutual
theorem Qct{L D:Tr}(h0:(bndT D).Sublist (bndT L)):∀{t t':Tr},DropR L D t t'->(bndT t').Sublist (bndT t)
 |_,_,.here=>h0
 |_,_,.node h=>by simp only[bndT];exact (List.Sublist.refl _).append (Qev h0 h)
theorem Qev{L D:Tr}(h0:(bndT D).Sublist (bndT L)):∀{l l':List Tr},DropRs L D l l'->(bndTs l').Sublist (bndTs l)
 |_,_,.nil=>.refl _
 |_,_,.cons h k=>by simp only[bndTs];exact (Qct h0 h).append (Qev h0 k)
end
mutual
theorem Qir{L D:Tr}(h0:cntN D<=cntN L):∀{t t':Tr},DropR L D t t'->cntN t'<=cntN t
 |_,_,.here=>h0
 |_,_,.node h=>by simp only[cntN];have:=Qeu h0 h;omega
theorem Qeu{L D:Tr}(h0:cntN D<=cntN L):∀{l l':List Tr},DropRs L D l l'->cntNs l'<=cntNs l
 |_,_,.nil=>Nat.le_refl _
 |_,_,.cons h k=>by simp only[cntNs];have:=Qir h0 h;have:=Qeu h0 k;omega
end
mutual
theorem Qbg{L D:Tr}(h0:Q0v D<=Q0v L):∀{t t':Tr},DropR L D t t'->Q0v t'<=Q0v t
 |_,_,.here=>h0
 |_,_,.node h=>by
  simp only[Q0v]
  have:=Q9u h0 h 0 0 (Int.le_refl _)
  omega
theorem Q9u{L D:Tr}(h0:Q0v D<=Q0v L):∀{l l':List Tr},DropRs L D l l'->∀m m',m'<=m->(Q3j l').foldl mx m'<=(Q3j l).foldl mx m
 |_,_,.nil,m,m',h=>h
 |_,_,.cons h k,m,m',hm=>by
  simp only[Q3j,List.foldl_cons]
  refine Q9u h0 k _ _ ?_
  have:=Qbg h0 h
  unfold mx
  split <;> split <;> omega
end
theorem drop_op{L D:Tr}{t t':Tr}(h4:L.op=4)(h:DropR L D t t'):t.op=2->t'.op=2:=fun h2=>by
 cases h with
 |here=>rw[h4]at h2;cases h2
 |node _=>exact h2
theorem Qip{L D:Tr}(h4:L.op=4):∀{l l':List Tr},DropRs L D l l'->l'.length=l.length/\∀i:Nat,(l.map Tr.op)[i]?=some 2->(l'.map Tr.op)[i]?=some 2
 |_,_,.nil=>⟨rfl,fun i h=>by simp at h⟩
 |_,_,.cons h k=>by
  obtain⟨h1,h2⟩:=Qip h4 k
  refine⟨by simp[h1],fun i hi=>?_⟩
  cases i with
  |zero=>
   simp only[List.map_cons,List.getElem?_cons_zero,Option.some.injEq]at hi ⊢
   exact drop_op h4 h hi
  |succ i=>
   simp only[List.map_cons,List.getElem?_cons_succ]at hi ⊢
   exact h2 i hi
theorem Qnm{o n:Int}{b ops ops':List Int}{a:List Alt}(hlen:ops'.length=ops.length)(h2:∀i:Nat,ops[i]?=some 2->ops'[i]?=some 2)(hp:pLab ⟨o,n,b,ops,a⟩):pLab ⟨o,n,b,ops',a⟩:=by
 intro e x hk hl
 obtain⟨e0,he0⟩:∃e0:List Ex,e0=ops.map fun op=>⟨op,0,[],[],[]⟩:=⟨_,rfl⟩
 obtain⟨x0,hx0⟩:∃x0:Ex,x0=⟨o,n,b,(List.range ops.length).map fun i:Nat=>(i:Int),a⟩:=⟨_,rfl⟩
 have hl0:e0.length=ops.length:=by rw[he0];simp
 have hk0:∀k∈x0.kids,0<=k/\k < (e0.length:Int):=by
  intro k hk
  rw[hx0]at hk
  simp only[List.mem_map,List.mem_range]at hk
  obtain⟨i,hi,rfl⟩:=hk
  rw[hl0];omega
 have hop:∀i,i < ops.length->((growL e0).getD i default).op=ops.getD i 0:=fun i hi=>by
  rw[Q97 e0 i (by omega),he0,List.getD_eq_getElem?_getD,List.getD_eq_getElem?_getD,List.getElem?_map]
  rw[List.getElem?_eq_getElem hi];rfl
 have hlab:labE e0 x0=⟨o,n,b,ops,a⟩:=by
  unfold labE
  rw[hx0]
  simp only[Lab.mk.injEq,true_and,and_true,List.map_map]
  refine List.ext_getElem? fun i=>?_
  by_cases hi:i < ops.length
  ·rw[List.getElem?_map,List.getElem?_range hi]
   simp only[Option.map_some,Function.comp_apply,Int.toNat_natCast]
   rw[hop i hi,List.getD_eq_getElem?_getD,List.getElem?_eq_getElem hi];rfl
  ·rw[List.getElem?_eq_none (by simp;omega),List.getElem?_eq_none (by omega)]
 have h0:=hp e0 x0 hk0 hlab
 have hl2:=hl
 unfold labE at hl
 simp only[Lab.mk.injEq]at hl
 obtain⟨l1,l2,l3,l4,l5⟩:=hl
 have hlab2:=hlab
 unfold labE at hlab2
 simp only[Lab.mk.injEq]at hlab2
 obtain⟨m1,m2,m3,m4,m5⟩:=hlab2
 refine Qe9 hk0 hk (m1.trans l1.symm) (m2.trans l2.symm) (m3.trans l3.symm) (m5.trans l5.symm) ?_ ?_ h0
 ·have:=congrArg List.length l4
  have h3:=congrArg List.length m4
  simp only[List.length_map]at this h3
  omega
 ·intro i hi
  have h3:(x0.kids.map fun k=>((growL e0).getD k.toNat default).op)[i]?=some 2:=hi
  rw[m4]at h3
  have h4:=h2 i h3
  rw[←l4]at h4
  exact h4
mutual
theorem Qiq{L D:Tr}(h4:L.op=4)(hD:allT pLab D):∀{t t':Tr},DropR L D t t'->allT pLab t->allT pLab t'
 |_,_,.here,_=>hD
 |_,_,.node h,⟨h1,h2⟩=>by
  obtain⟨e1,e2⟩:=Qip h4 h
  exact⟨Qnm (by simp[e1]) e2 h1,Qet h4 hD h h2⟩
theorem Qet{L D:Tr}(h4:L.op=4)(hD:allT pLab D):∀{l l':List Tr},DropRs L D l l'->allTs pLab l->allTs pLab l'
 |_,_,.nil,_=>trivial
 |_,_,.cons h k,⟨h1,h2⟩=>⟨Qiq h4 hD h h1,Qet h4 hD k h2⟩
end
-- Where the let stood, its identifier is no longer bound.
end Go.CoreX
namespace Go.Proofs.YtpaonemmbhbgoaaGreatDoor
open Go Go.Abs Go.CoreX
variable {Γ:List (Nat×List AC)}
end Go.Proofs.YtpaonemmbhbgoaaGreatDoor
namespace Go.Abs
end Go.Abs
namespace Go.Proofs.YtpaonemmbhbgoaaGreatDoor
open Go Go.Abs Go.CoreX
variable {Γ:List (Nat×List AC)}
end Go.Proofs.YtpaonemmbhbgoaaGreatDoor
namespace Go.CoreX
mutual
inductive Vl where
 |nil
 |word (n:Int)
 |clo (t:Tr) (e:En)
 |obj (tag:Int) (fs:List Vl)
 |row (ls:List Int) (fs:List Vl)
 |arr (a:Nat)
 |res (fs:List Fm)
 |cap (fn:Int) (slots:List Vl)
inductive En where
 |nil
 |bind (id:Int) (v:Vl) (next:En)
 |recs (t:Tr) (next:En)
inductive Fm where
 |mk (t:Tr) (e:En) (done:List Vl)
end
instance:Inhabited Vl:=⟨.nil⟩
instance:Inhabited Fm:=⟨.mk default .nil []⟩
def Fm.t:Fm->Tr|.mk t _ _=>t
def Fm.e:Fm->En|.mk _ e _=>e
def Fm.done:Fm->List Vl|.mk _ _ d=>d
@[simp] theorem Fm.t_mk (t e d):(Fm.mk t e d).t=t:=rfl
@[simp] theorem Fm.e_mk (t e d):(Fm.mk t e d).e=e:=rfl
@[simp] theorem Fm.done_mk (t e d):(Fm.mk t e d).done=d:=rfl

def Q9d (l:List Int)(id:Int):Nat->Option Nat
 |0=>none
 |i+1=>if l.getD i 0=id then some i else Q9d l id i
def findE (id:Int):En->Vl
 |.nil=>.nil
 |.bind i v n=>if i=id then v else findE id n
 |.recs t n=>match Q9d t.binds id t.binds.length with
  |some i=>.clo (t.kids.getD i default) (.recs t n)
  |none=>findE id n
def allE (e:En):List Int->List Vl->En
 |id::ids,l=>allE (.bind id (l.headD .nil) e) ids l.tail
 |[],_=>e

inductive Ctl where
 |ev (t:Tr) (e:En)
 |rt (v:Vl)
structure Ms where
 c:Ctl
 k:List Fm
 out:List Int
 steps:Int
 heap:List (List Vl)
structure Fun where
 params:List Int
 body:Tr

def condV (b:Bool):Vl:=.obj (if b then 1 else 0) []
def wrapW (n:Int):Int:=(n+1073741824) % 2147483648 - 1073741824
def wordV:Vl->Except Int Int
 |.word n=>.ok n
 |_=>.error 5
def Qls (h:List (List Vl)):Vl->Except Int (Nat×List Vl)
 |.arr a=>.ok (a,h.getD a [])
 |_=>.error 5
def rowsV:Vl->Except Int (List Int×List Vl)
 |.row ls fs=>.ok (ls,fs)
 |_=>.error 5

def bsGo (l:List Int)(x:Int):Nat->Nat->Nat->Nat
 |0,i,_=>i
 |g+1,i,j=>if i < j then (if l.getD ((i+j) / 2) 0 < x then bsGo l x g ((i+j) / 2+1) j else bsGo l x g i ((i+j) / 2))else i
def bsAt (l:List Int)(x:Int):Nat:=bsGo l x l.length 0 l.length
def bsIs (l:List Int)(x:Int):Bool:=decide (bsAt l x < l.length)&&l.getD (bsAt l x) 0==x

def Qii (fu:Int)(m:Ms)(many:Int)(v:Vl):Except Int (Ms×Vl):=
 if many < 0∨1024 < many then .error 6 else if fu - m.steps < many then .error (-1) else
 .ok ({ m with steps:=m.steps+many,heap:=m.heap++[List.replicate many.toNat v] },.arr m.heap.length)
def Qd2 (m:Ms)(n:Int)(l:List Vl):Except Int (Ms×Vl):=do
 let (a,its) ←Qls m.heap (l.getD 0 .nil)
 if n=9 then return (m,.word its.length)
 let i ←wordV (l.getD 1 .nil)
 if i < 0∨(its.length:Int)<=i then .error 2
 else if n=10 then return (m,its.getD i.toNat .nil)
 else return ({ m with heap:=m.heap.set a (its.set i.toNat (l.getD 2 .nil)) },.obj 0 [])
def primM (fu:Int)(m:Ms)(n:Int)(l:List Vl):Except Int (Ms×Vl):=
 if n=0 then do return (m,.word (wrapW ((←wordV (l.getD 0 .nil))+(←wordV (l.getD 1 .nil))))) else
 if n=1 then do return (m,.word (wrapW ((←wordV (l.getD 0 .nil)) - (←wordV (l.getD 1 .nil))))) else
 if n=2 then do return (m,.word (wrapW ((←wordV (l.getD 0 .nil)) * (←wordV (l.getD 1 .nil))))) else
 if n=3 then do
  let a ←wordV (l.getD 0 .nil)
  let b ←wordV (l.getD 1 .nil)
  if b=0 then .error 1 else return (m,.word (wrapW (a.tdiv b))) else
 if n=4 then do
  let a ←wordV (l.getD 0 .nil)
  let b ←wordV (l.getD 1 .nil)
  if b=0 then .error 1 else return (m,.word (a.tmod b)) else
 if n=5 then do return (m,condV (decide ((←wordV (l.getD 0 .nil)) < (←wordV (l.getD 1 .nil))))) else
 if n=6 then do return (m,condV (decide ((←wordV (l.getD 0 .nil))=(←wordV (l.getD 1 .nil))))) else
 if n=7 then do
  let a ←wordV (l.getD 0 .nil)
  if m.out.length=1000 then .error 6 else return ({ m with out:=m.out++[a] },.obj 0 []) else
 if n=8 then do
  let a ←wordV (l.getD 0 .nil)
  Qii fu m a (l.getD 1 .nil) else
 Qd2 m n l
def withR (ls:List Int)(fs:List Vl)(n:Int)(v:Vl):Vl:=
 if bsIs ls n then .row ls (fs.set (bsAt ls n) v)
 else .row (ls.take (bsAt ls n)++n::ls.drop (bsAt ls n)) (fs.take (bsAt ls n)++v::fs.drop (bsAt ls n))
def Q4p (fu:Int)(m:Ms)(t:Tr)(l:List Vl):Except Int (Ms×Vl):=
 if t.op=6 then .ok (m,.obj t.n l) else
 if t.op=8 then primM fu m t.n l else
 if t.op=9 then .ok (m,.row t.binds l) else
 if t.op=10 then do
  let (ls,fs) ←rowsV (l.getD 0 .nil)
  if bsIs ls t.n then return (m,fs.getD (bsAt ls t.n) .nil)else .error 3
 else do
  let (ls,fs) ←rowsV (l.getD 0 .nil)
  return (m,withR ls fs t.n (l.getD 1 .nil))
def opdN (t:Tr):Nat:=if t.op=4∨t.op=7∨t.op=13∨t.op=12 then 1 else t.kids.length
def Q4k (tag:Int)(fs:List Vl)(e:En)(kids:List Tr):Nat->List Alt->Except Int Ctl
 |_,[]=>.error 3
 |i,a::al=>if a.tag=tag then (if a.binds.length=fs.length then .ok (.ev (kids.getD (1+i) default) (allE e a.binds fs))else .error 5)
  else if a.tag=-1 then .ok (.ev (kids.getD (1+i) default) e)else Q4k tag fs e kids (i+1) al
def Qcz (m:Ms)(t:Tr)(e:En)(v:Vl):Except Int Ms:=
 match v with
 |.obj tag fs=>(Q4k tag fs e t.kids 0 t.alts).map fun c=>{ m with c:=c }
 |_=>.error 5
def callM (fns:List Fun)(m:Ms)(f:Vl)(args:List Vl):Except Int Ms:=
 match f with
 |.clo t e=>if t.binds.length=args.length then .ok { m with c:=.ev (t.kids.getD 0 default) (allE e t.binds args) }else .error 5
 |.cap n slots=>if (fns.getD n.toNat ⟨[],default⟩).params.length=args.length+1 then .ok { m with c:=.ev (fns.getD n.toNat ⟨[],default⟩).body (allE .nil (fns.getD n.toNat ⟨[],default⟩).params (.cap n slots::args)) }else .error 5
 |.res fs=>match args with
  |[a]=>.ok { m with c:=.rt a,k:=fs++m.k }
  |_=>.error 5
 |_=>.error 5
def Q2m (op:Int):Nat->List Alt->Option Nat
 |_,[]=>none
 |i,a::al=>if a.tag=op/\0 < i then some i else Q2m op (i+1) al
def Q16 (m:Ms)(op:Int)(v:Vl):List Fm->List Fm->Except Int Ms
 |_,[]=>.error 4
 |l,f::k=>match (if f.t.op=13 then Q2m op 0 f.t.alts else none) with
  |some i=>.ok { m with c:=.ev (f.t.kids.getD (1+i) default) (.bind ((f.t.alts.getD i ⟨0,[]⟩).binds.getD 1 0) (.res (l++[f])) (.bind ((f.t.alts.getD i ⟨0,[]⟩).binds.getD 0 0) v f.e)),k:=k }
  |none=>Q16 m op v (l++[f]) k
def kidM (fu:Int)(fns:List Fun)(m:Ms)(f:Fm)(k:List Fm):Except Int Ms:=
 if f.done.length < opdN f.t then .ok { m with c:=.ev (f.t.kids.getD f.done.length default) f.e,k:=f::k } else
 if f.t.op=4 then .ok { m with c:=.ev (f.t.kids.getD 1 default) (.bind (f.t.binds.getD 0 0) (f.done.getD 0 .nil) f.e),k:=k } else
 if f.t.op=7 then Qcz { m with k:=k } f.t f.e (f.done.getD 0 .nil) else
 if f.t.op=3 then callM fns { m with k:=k } (f.done.getD 0 .nil) (f.done.drop 1) else
 if f.t.op=13 then .ok { m with c:=.ev (f.t.kids.getD 1 default) (.bind ((f.t.alts.getD 0 ⟨0,[]⟩).binds.getD 0 0) (f.done.getD 0 .nil) f.e),k:=k } else
 if f.t.op=12 then Q16 m f.t.n (f.done.getD 0 .nil) [] k else
 if f.t.op=14 then .ok { m with c:=.ev (fns.getD f.t.n.toNat ⟨[],default⟩).body (allE .nil (fns.getD f.t.n.toNat ⟨[],default⟩).params f.done),k:=k } else
 if f.t.op=15 then .ok { m with c:=.rt (.cap f.t.n f.done),k:=k } else
 if f.t.op=16 then (match f.done.getD 0 .nil with
  |.cap _ slots=>if f.t.n < slots.length then .ok { m with c:=.rt (slots.getD f.t.n.toNat .nil),k:=k }else .error 5
  |_=>.error 5) else
 (Q4p fu { m with k:=k } f.t f.done).map fun (m',v)=>{ m' with c:=.rt v }
def Q3c (fu:Int)(fns:List Fun)(m:Ms)(t:Tr)(e:En):Except Int Ms:=
 if t.op=0 then .ok { m with c:=.rt (findE t.n e) } else
 if t.op=1 then .ok { m with c:=.rt (.word t.n) } else
 if t.op=2 then .ok { m with c:=.rt (.clo t e) } else
 if t.op=17 then .error t.n else
 if t.op=5 then .ok { m with c:=.ev (t.kids.getD t.binds.length default) (.recs t e) } else
 kidM fu fns m (.mk t e []) m.k
inductive Rd where
 |next (m:Ms)
 |done (m:Ms) (v:Vl)
 |fuel
 |trap (code:Int) (m:Ms)
def Q1d (fu:Int)(fns:List Fun)(m:Ms):Rd:=
 match m.c with
 |.rt v=>match m.k with
  |[]=>.done m v
  |f::k=>match kidM fu fns m (.mk f.t f.e (f.done++[v])) k with
   |.ok m'=>.next m'
   |.error c=>.trap c m
 |.ev t e=>if m.steps=fu then .fuel else
  match Q3c fu fns { m with steps:=m.steps+1 } t e with
  |.ok m'=>.next m'
  |.error c=>.trap c { m with steps:=m.steps+1 }
structure Rs where
 out:List Int
 fin:Int
 val:Int
 steps:Int
 err:Int
 deriving DecidableEq
def lastV:Vl->Int
 |.word n=>n
 |.obj t _=>t
 |_=>0
def noFuel:Rs:=⟨[],0,0,0,13⟩
def goM (fu:Int)(fns:List Fun):Nat->Ms->Option Rs
 |0,_=>none
 |g+1,m=>match Q1d fu fns m with
  |.next m'=>goM fu fns g m'
  |.done m v=>some ⟨m.out,0,lastV v,m.steps,0⟩
  |.fuel=>some noFuel
  |.trap c m=>some (if c < 0 then noFuel else ⟨m.out,c,0,m.steps,0⟩)
end Go.CoreX
namespace Go.CoreX
inductive Rn (fu:Int)(fns:List Fun):Nat->Ms->Ms->Prop
 |zero (m:Ms):Rn fu fns 0 m m
 |succ {n:Nat}{m m1 m':Ms}(h:Q1d fu fns m=.next m1) (k:Rn fu fns n m1 m'):Rn fu fns (n+1) m m'
section
variable {fu:Int}{fns:List Fun}
theorem Rn.trans{n n':Nat}{m m1 m2:Ms}(a:Rn fu fns n m m1)(b:Rn fu fns n' m1 m2):Rn fu fns (n'+n) m m2:=by
 induction a with
 |zero m=>exact b
 |succ h k ih=>exact .succ h (ih b)
theorem Rn.go{n:Nat}{m m':Ms}(a:Rn fu fns n m m')(g:Nat):goM fu fns (g+n) m=goM fu fns g m':=by
 induction a with
 |zero m=>rfl
 |succ h k ih=>
  rw[←Nat.add_assoc,goM,h]
  exact ih
def Rs' (fu:Int)(fns:List Fun)(m m':Ms):Prop:=∃n,Rn fu fns n m m'
theorem Rs'.trans{m m1 m2:Ms}(a:Rs' fu fns m m1)(b:Rs' fu fns m1 m2):Rs' fu fns m m2:=by
 obtain⟨n,a⟩:=a;obtain⟨k,b⟩:=b;exact⟨_,a.trans b⟩
theorem Rs'.one{m m1 m2:Ms}(h:Q1d fu fns m=.next m1)(b:Rs' fu fns m1 m2):Rs' fu fns m m2:=by
 obtain⟨k,b⟩:=b;exact⟨_,.succ h b⟩
end
end Go.CoreX
namespace Go.CoreX
section
variable {fu:Int}{fns:List Fun}
def tV (n:Int):Tr:=.mk 0 n [] [] []
def tW (n:Int):Tr:=.mk 1 n [] [] []
end
end Go.CoreX
namespace Go.CoreX
mutual
def szV:Vl->Nat
 |.res fs=>szFs fs
 |_=>0
def szVs:List Vl->Nat
 |[]=>0
 |v::vs=>szV v+szVs vs
def szF:Fm->Nat
 |.mk _ _ d=>1+szVs d
def szFs:List Fm->Nat
 |[]=>0
 |f::fs=>szF f+szFs fs
end
theorem Qn6(a b:List Fm):szFs (a++b)=szFs a+szFs b:=by
 induction a with
 |nil=>simp[szFs]
 |cons x a ih=>simp[szFs,ih];omega
def phase (m:Ms):Nat:=match m.c with
 |.ev _ _=>0
 |.rt _=>1+szFs m.k
structure After (fu:Int)(m m':Ms)(b:Nat):Prop where
 ge:m.steps<=m'.steps
 le:m.steps<=fu->m'.steps<=fu
 ph:phase m' < 1+b
theorem Qbk{tag:Int}{fs:List Vl}{e:En}{kids:List Tr}{c:Ctl}:∀(i:Nat)(l:List Alt),Q4k tag fs e kids i l=.ok c->∃t e',c=.ev t e'
 |_,[],h=>by cases h
 |i,a::al,h=>by
  unfold Q4k at h
  split at h
  ·split at h
   ·cases h;exact⟨_,_,rfl⟩
   ·cases h
  ·split at h
   ·cases h;exact⟨_,_,rfl⟩
   ·exact Qbk _ al h
theorem Q93{m m':Ms}{op:Int}{v:Vl}:∀(l k:List Fm),Q16 m op v l k=.ok m'->(∃t e',m'.c=.ev t e')/\m'.steps=m.steps
 |_,[],h=>by cases h
 |l,f::k,h=>by
  unfold Q16 at h
  split at h
  ·cases h;exact⟨⟨_,_,rfl⟩,rfl⟩
  ·exact Q93 _ k h
theorem Qft{fu:Int}{m m':Ms}{n:Int}{l:List Vl}{v:Vl}(h:primM fu m n l=.ok (m',v)):m.steps<=m'.steps/\(m.steps<=fu->m'.steps<=fu)/\m'.k=m.k:=by
 have bd:∀{α β:Type}{x:Except Int α}{f:α->Except Int β}{r:β},x.bind f=.ok r->∃a,x=.ok a/\f a=.ok r:=by
  intro α β x f r hh
  cases x with
  |error c=>cases hh
  |ok a=>exact⟨a,rfl,hh⟩
 unfold primM at h
 repeat' split at h
 all_goals try (simp only[bind,Except.bind,pure,Except.pure]at h;repeat' split at h)
 all_goals try (cases h;done)
 all_goals try (cases h;exact⟨Int.le_refl _,id,rfl⟩)
 ·unfold Qii at h
  repeat' split at h
  all_goals try (cases h;done)
  cases h
  refine⟨?_,?_,rfl⟩ <;> simp <;> omega
 ·unfold Qd2 at h
  simp only[bind,Except.bind,pure,Except.pure]at h
  repeat' split at h
  all_goals try (cases h;done)
  all_goals (cases h;exact⟨Int.le_refl _,id,rfl⟩)
theorem Q7y{fu:Int}{m m':Ms}{t:Tr}{l:List Vl}{v:Vl}(h:Q4p fu m t l=.ok (m',v)):m.steps<=m'.steps/\(m.steps<=fu->m'.steps<=fu)/\m'.k=m.k:=by
 unfold Q4p at h
 repeat' split at h
 ·cases h;exact⟨Int.le_refl _,id,rfl⟩
 ·exact Qft h
 ·cases h;exact⟨Int.le_refl _,id,rfl⟩
 ·simp only[bind,Except.bind,pure,Except.pure]at h
  repeat' split at h
  all_goals try (cases h;done)
  all_goals (cases h;exact⟨Int.le_refl _,id,rfl⟩)
 ·simp only[bind,Except.bind,pure,Except.pure]at h
  repeat' split at h
  all_goals try (cases h;done)
  all_goals (cases h;exact⟨Int.le_refl _,id,rfl⟩)
theorem Q7f{fu:Int}{fns:List Fun}{m m':Ms}{f:Fm}{k:List Fm}(h:kidM fu fns m f k=.ok m')(d0:List Vl)(v:Vl)(hd:f.done=d0++[v]∨(f.done=[]/\d0=[])):After fu m m' (1+szVs d0+szFs k):=by
 unfold kidM at h
 split at h
 ·cases h;exact⟨Int.le_refl _,id,by simp[phase];omega⟩
 split at h
 ·cases h;exact⟨Int.le_refl _,id,by simp[phase];omega⟩
 split at h
 ·unfold Qcz at h
  split at h
  ·cases hc:Q4k _ _ f.e f.t.kids 0 f.t.alts with
   |error c=>rw[hc]at h;cases h
   |ok c=>
    rw[hc]at h
    obtain⟨t,e',rfl⟩:=Qbk _ _ hc
    cases h
    exact⟨Int.le_refl _,id,by simp[phase];omega⟩
  ·cases h
 split at h
 ·unfold callM at h
  split at h
  ·split at h
   ·cases h;exact⟨Int.le_refl _,id,by simp[phase];omega⟩
   ·cases h
  ·split at h
   ·cases h;exact⟨Int.le_refl _,id,by simp[phase];omega⟩
   ·cases h
  ·rename_i fs hf
   split at h
   ·rename_i a ha
    cases h
    refine⟨Int.le_refl _,id,?_⟩
    simp only[phase,Qn6]
    rcases hd with hd|⟨hd,_⟩
    ·rw[hd]at hf ha
     have:d0=[.res fs]:=by
      have hl:=congrArg List.length ha
      simp at hl
      match d0,hl with
      |[x],_=>simp at hf;rw[hf]
     subst this
     simp[szVs,szV]
    ·rw[hd]at ha;cases ha
   ·cases h
  ·cases h
 split at h
 ·cases h;exact⟨Int.le_refl _,id,by simp[phase];omega⟩
 split at h
 ·obtain⟨⟨t,e',hc⟩,hs⟩:=Q93 _ _ h
  refine⟨by rw[hs];exact Int.le_refl _,fun hh=>by rw[hs];exact hh,?_⟩
  simp[phase,hc];omega
 split at h
 ·cases h;exact⟨Int.le_refl _,id,by simp[phase];omega⟩
 split at h
 ·cases h;exact⟨Int.le_refl _,id,by simp[phase];omega⟩
 split at h
 ·split at h
  ·split at h
   ·cases h;exact⟨Int.le_refl _,id,by simp[phase];omega⟩
   ·cases h
  ·cases h
 ·cases hp:Q4p fu { m with k:=k } f.t f.done with
  |error c=>rw[hp]at h;cases h
  |ok mv=>
   obtain⟨m2,v2⟩:=mv
   rw[hp]at h
   cases h
   obtain⟨h1,h2,h3⟩:=Q7y hp
   refine⟨h1,h2,?_⟩
   simp only[phase,h3];omega
end Go.CoreX
namespace Go.CoreX
structure GP where
 p:Lab->Prop
 S:Int->Prop
 W:Int->Prop
 fns:List Fun
 R:Prop:=True
structure GPok (G:GP):Prop where
 sh:∀l,G.p l->shpQ l
 bnd:∀l,G.p l->∀i∈Q08 l.op l.binds l.alts,G.S i
 wd:∀l,G.p l->l.op=1->G.W l.n
 rc:∀l,G.p l->l.op=5->∀i,i < l.binds.length->l.ops[i]?=some 2
 wr:∀n,G.W (wrapW n)
 wl:∀n:Int,0<=n->n<=1024->G.W n
 wm:∀a b:Int,G.W a->G.W b->G.W (a.tmod b)
 fn:∀f∈G.fns,allT G.p f.body/\∀i∈f.params,G.S i
 cl:∀l,G.p l->l.op=14∨l.op=15->0<=l.n/\l.n < G.fns.length
 rs:∀l,G.p l->l.op=12->G.R
def nLf (o:Int):Prop:=¬(o=0∨o=1∨o=2∨o=17∨o=5)
mutual
def gV (G:GP):Vl->Prop
 |.nil=>True
 |.word n=>G.W n
 |.clo t e=>t.op=2/\allT G.p t/\gE G e
 |.obj _ fs=>gVs G fs
 |.row ls fs=>ls.length=fs.length/\gVs G fs
 |.arr _=>True
 |.res fs=>G.R/\gFs G fs
 |.cap n sl=>(0<=n/\n < G.fns.length)/\gVs G sl
def gVs (G:GP):List Vl->Prop
 |[]=>True
 |v::l=>gV G v/\gVs G l
def gE (G:GP):En->Prop
 |.nil=>True
 |.bind i v n=>G.S i/\gV G v/\gE G n
 |.recs t n=>t.op=5/\allT G.p t/\gE G n
def gF (G:GP):Fm->Prop
 |.mk t e d=>allT G.p t/\gE G e/\gVs G d/\d.length < opdN t/\nLf t.op
def gFs (G:GP):List Fm->Prop
 |[]=>True
 |f::l=>gF G f/\gFs G l
end
def gC (G:GP):Ctl->Prop
 |.ev t e=>allT G.p t/\gE G e
 |.rt v=>gV G v
structure gM (G:GP)(m:Ms):Prop where
 c:gC G m.c
 k:gFs G m.k
 h:∀r∈m.heap,r.length<=1024/\gVs G r
section
variable {G:GP}(hG:GPok G)
theorem Q26:∀{l:List Vl},gVs G l↔∀v∈l,gV G v
 |[]=>by simp[gVs]
 |v::l=>by simp[gVs,Q26 (l:=l)]
theorem Qcq:∀{l:List Fm},gFs G l↔∀v∈l,gF G v
 |[]=>by simp[gFs]
 |v::l=>by simp[gFs,Qcq (l:=l)]
theorem gF_iff{f:Fm}:gF G f↔allT G.p f.t/\gE G f.e/\gVs G f.done/\f.done.length < opdN f.t/\nLf f.t.op:=by cases f;exact Iff.rfl
theorem Q34{l:List Vl}(h:gVs G l)(i:Nat):gV G (l.getD i .nil):=by
 rw[List.getD_eq_getElem?_getD]
 cases hi:l[i]? with
 |none=>simp[gV]
 |some v=>exact Q26.1 h v (List.mem_of_getElem? hi)
theorem Qg7{a b:List Vl}(ha:gVs G a)(hb:gVs G b):gVs G (a++b):=Q26.2 fun v hv=>(List.mem_append.1 hv).elim (Q26.1 ha v) (Q26.1 hb v)
theorem Qg8{a b:List Fm}(ha:gFs G a)(hb:gFs G b):gFs G (a++b):=Qcq.2 fun v hv=>(List.mem_append.1 hv).elim (Qcq.1 ha v) (Qcq.1 hb v)
theorem Q9m:∀{ids:List Int}{l:List Vl}{e:En},gE G e->gVs G l->(∀i∈ids,G.S i)->gE G (allE e ids l)
 |[],_,_,he,_,_=>he
 |i::ids,l,e,he,hl,hs=>by
  refine Q9m (ids:=ids) ⟨hs i (by simp),?_,he⟩ ?_ fun j hj=>hs j (by simp[hj])
  ·cases l with
   |nil=>simp[gV]
   |cons v l=>exact hl.1
  ·cases l with
   |nil=>simp[gVs]
   |cons v l=>exact hl.2
include hG
theorem g_sh{t:Tr}(h:allT G.p t):ShN t.op t.n t.binds t.kids.length t.alts:=Qkk (Q6v hG.sh t h)
theorem g_bnd{t:Tr}(h:allT G.p t):∀i∈Q08 t.op t.binds t.alts,G.S i:=hG.bnd _ (Q2n h)
theorem Qma{t:Tr}(h:allT G.p t){i:Nat}{a:Alt}(ha:t.alts[i]?=some a):∀j∈a.binds,G.S j:=fun j hj=>g_bnd hG h j (by
 unfold Q08
 exact List.mem_append.2 (.inr (List.mem_flatMap.2 ⟨a,List.mem_of_getElem? ha,hj⟩)))
omit hG in
theorem Qec{l:List Int}{id:Int}:∀{n i:Nat},Q9d l id n=some i->i < n/\l.getD i 0=id
 |0,_,h=>by cases h
 |n+1,i,h=>by
  unfold Q9d at h
  split at h
  ·rename_i he;cases h;exact⟨by omega,he⟩
  ·have:=Qec h;exact⟨by omega,this.2⟩
theorem Qo5{t:Tr}(h:allT G.p t)(h5:t.op=5){i:Nat}(hi:i < t.binds.length):(t.kids.getD i default).op=2/\allT G.p (t.kids.getD i default)/\i < t.kids.length:=by
 have h1:=hG.rc _ (Q2n h) h5 i hi
 simp only at h1
 rw[List.getElem?_map]at h1
 cases hk:t.kids[i]? with
 |none=>rw[hk]at h1;cases h1
 |some s=>
  rw[hk]at h1
  have hl:=(List.getElem?_eq_some_iff.1 hk).1
  refine⟨?_,Q37 h hl,hl⟩
  rw[List.getD_eq_getElem?_getD,hk]
  simpa using h1
theorem Qg9{id:Int}:∀{e:En},gE G e->gV G (findE id e)
 |.nil,_=>by simp[findE,gV]
 |.bind i v n,h=>by
  unfold findE
  split
  ·exact h.2.1
  ·exact Qg9 h.2.2
 |.recs t n,h=>by
  unfold findE
  split
  ·rename_i i hi
   have h1:=(Qec hi).1
   have h2:=Qo5 hG h.2.1 h.1 h1
   exact⟨h2.1,h2.2.1,h.1,h.2.1,h.2.2⟩
  ·exact Qg9 h.2.2
theorem Qf3{t:Tr}{e:En}{tag:Int}{fs:List Vl}{c:Ctl}(ht:allT G.p t)(h7:t.op=7)(he:gE G e)(hf:gVs G fs):∀(l:List Alt)(i:Nat),t.alts.drop i=l->Q4k tag fs e t.kids i l=.ok c->gC G c
 |[],_,_,h=>by cases h
 |a::al,i,hd,h=>by
  have ha:t.alts[i]?=some a:=by
   have:=congrArg (·[0]?) hd
   simpa using this
  have hl:=(List.getElem?_eq_some_iff.1 ha).1
  have hsh:=g_sh hG ht
  rw[h7]at hsh
  have hk:1+i < t.kids.length:=by rw[hsh.case.1];omega
  unfold Q4k at h
  split at h
  ·split at h
   ·cases h;exact⟨Q37 ht hk,Q9m he hf (Qma hG ht ha)⟩
   ·cases h
  ·split at h
   ·cases h;exact⟨Q37 ht hk,he⟩
   ·exact Qf3 ht h7 he hf al (i+1) (by rw[←List.drop_drop,hd];rfl) h
omit hG in
theorem Q6r{op:Int}:∀{l:List Alt}{i j:Nat},Q2m op i l=some j->0 < j/\i<=j/\∃a,l[j - i]?=some a/\a.tag=op
 |[],_,_,h=>by cases h
 |a::al,i,j,h=>by
  unfold Q2m at h
  split at h
  ·rename_i hc;cases h;exact⟨hc.2,by omega,a,by simp,hc.1⟩
  ·obtain⟨h1,h2,b,h3,h4⟩:=Q6r h
   refine⟨h1,by omega,b,?_,h4⟩
   rw[show j - i=(j - (i+1))+1 by omega];simpa using h3
theorem Qau{op:Int}{v:Vl}{m m':Ms}(hR:G.R)(hv:gV G v)(hh:∀r∈m.heap,r.length<=1024/\gVs G r):∀{k l:List Fm},gFs G l->gFs G k->Q16 m op v l k=.ok m'->gM G m'
 | [], _, _, _, h => by cases h
 |f::k,l,hl,hk,h=>by
  unfold Q16 at h
  split at h
  ·rename_i i hi
   split at hi
   ·rename_i h13
    obtain⟨h1,h2,a,h3,h4⟩:=Q6r hi
    cases h
    cases f with
    |mk t e d=>
     obtain⟨g1,g2,g3,g4⟩:=hk.1
     simp only[Fm.t_mk,Fm.e_mk]at *
     have hsh:=g_sh hG g1
     rw[h13]at hsh
     have h3:t.alts[i]?=some a:=by simpa using h3
     have hil:=(List.getElem?_eq_some_iff.1 h3).1
     have hb:=(hsh.handle.2.2.2 i a h3).2
     rw[if_neg (by omega)]at hb
     have hS:=Qma hG g1 h3
     have hga:t.alts.getD i ⟨0,[]⟩=a:=by rw[List.getD_eq_getElem?_getD,h3];rfl
     match hab:a.binds,hb with
     |[x,y],_=>
      refine⟨⟨Q37 g1 (by rw[hsh.handle.1];omega),?_,?_,?_,hv,g2⟩,hk.2,hh⟩
      ·rw[hga,hab];exact hS _ (by rw[hab];simp)
      ·exact⟨hR,Qg8 (b:=[_]) hl ⟨⟨g1,g2,g3,g4⟩,trivial⟩⟩
      ·rw[hga,hab];exact hS _ (by rw[hab];simp)
   ·cases hi
  ·exact Qau hR hv hh (Qg8 (b:=[f]) hl ⟨hk.1,trivial⟩) hk.2 h
theorem primM_g{fu:Int}{m m':Ms}{n:Int}{l:List Vl}{v:Vl}(hl:gVs G l)(hh:∀r∈m.heap,r.length<=1024/\gVs G r)(h:primM fu m n l=.ok (m',v)):gV G v/\∀r∈m'.heap,r.length<=1024/\gVs G r:=by
 have hw:∀{i:Nat}{a:Int},wordV (l.getD i .nil)=.ok a->G.W a:=by
  intro i a ha
  have:=Q34 hl i
  cases hv:l.getD i Vl.nil <;> rw[hv]at ha this <;> first|(cases ha;done)|(cases ha;exact this)
 unfold primM at h
 repeat' split at h
 all_goals try (simp only[bind,Except.bind,pure,Except.pure]at h;repeat' split at h)
 all_goals try (cases h;done)
 all_goals try (cases h;refine⟨?_,hh⟩;first|exact hG.wr _|(simp only[condV,gV,gVs];done))
 ·rename_i a ha _ b hb _
  cases h;exact⟨hG.wm _ _ (hw ha) (hw hb),hh⟩
 ·unfold Qii at h
  repeat' split at h
  all_goals try (cases h;done)
  cases h
  refine⟨trivial,fun r hr=>?_⟩
  rcases List.mem_append.1 hr with hr|hr
  ·exact hh r hr
  ·simp at hr
   subst hr
   refine⟨by simp;omega,Q26.2 fun v hv=>?_⟩
   rw[(List.mem_replicate.1 hv).2]
   exact Q34 hl 1
 ·unfold Qd2 at h
  simp only[bind,Except.bind,pure,Except.pure]at h
  have hit:∀{a:Nat}{its:List Vl},Qls m.heap (l.getD 0 .nil)=.ok (a,its)->its.length<=1024/\gVs G its:=by
   intro a its ha
   cases hv:l.getD 0 Vl.nil <;> rw[hv]at ha <;> try (cases ha;done)
   cases ha
   rw[List.getD_eq_getElem?_getD]
   cases hr:m.heap[a]? with
   |none=>simp[gVs]
   |some r=>exact hh r (List.mem_of_getElem? hr)
  cases hp:Qls m.heap (l.getD 0 .nil) with
  |error c=>rw[hp]at h;cases h
  |ok p=>
   obtain⟨a,its⟩:=p
   rw[hp]at h
   simp only at h
   by_cases h9:n=9
   ·rw[if_pos h9]at h
    cases h
    exact⟨hG.wl _ (by omega) (by have:=(hit hp).1;omega),hh⟩
   rw[if_neg h9]at h
   cases hw1:wordV (l.getD 1 .nil) with
   |error c=>rw[hw1]at h;cases h
   |ok i=>
    rw[hw1]at h
    simp only at h
    split at h
    ·cases h
    split at h
    ·cases h
     exact⟨Q34 (hit hp).2 _,hh⟩
    ·cases h
     refine⟨by simp only[gV,gVs],fun r hr=>?_⟩
     rcases List.mem_or_eq_of_mem_set hr with hr|hr
     ·exact hh r hr
     ·subst hr
      refine⟨by simpa using (hit hp).1,Q26.2 fun v hv=>?_⟩
      rcases List.mem_or_eq_of_mem_set hv with hv|hv
      ·exact Q26.1 (hit hp).2 v hv
      ·rw[hv];exact Q34 hl 2
theorem Qnl{fu:Int}{m m':Ms}{t:Tr}{l:List Vl}{v:Vl}(ht:allT G.p t)(hlen:l.length=t.kids.length)(hl:gVs G l)(hh:∀r∈m.heap,r.length<=1024/\gVs G r)(h:Q4p fu m t l=.ok (m',v)):gV G v/\∀r∈m'.heap,r.length<=1024/\gVs G r:=by
 have hr:∀{ls:List Int}{fs:List Vl},rowsV (l.getD 0 .nil)=.ok (ls,fs)->ls.length=fs.length/\gVs G fs:=by
  intro ls fs ha
  have:=Q34 hl 0
  cases hv:l.getD 0 Vl.nil <;> rw[hv]at ha this <;> first|(cases ha;done)|(cases ha;exact this)
 unfold Q4p at h
 split at h
 ·cases h;exact⟨hl,hh⟩
 split at h
 ·exact primM_g hG hl hh h
 split at h
 ·rename_i h9
  cases h
  have:=g_sh hG ht
  rw[h9]at this
  exact⟨⟨by rw[hlen];exact this.row.1.symm,hl⟩,hh⟩
 split at h
 ·simp only[bind,Except.bind,pure,Except.pure]at h
  repeat' split at h
  all_goals try (cases h;done)
  rename_i _ p hp _
  obtain⟨ls,fs⟩:=p
  cases h
  exact⟨Q34 (hr hp).2 _,hh⟩
 ·simp only[bind,Except.bind,pure,Except.pure]at h
  repeat' split at h
  all_goals try (cases h;done)
  rename_i _ p hp
  obtain⟨ls,fs⟩:=p
  cases h
  refine⟨?_,hh⟩
  have hv:=Q34 hl 1
  obtain⟨h1,h2⟩:=hr hp
  unfold withR
  split
  ·refine⟨by simpa using h1,Q26.2 fun v hv'=>?_⟩
   rcases List.mem_or_eq_of_mem_set hv' with h3|h3
   ·exact Q26.1 h2 v h3
   ·rw[h3];exact hv
  ·refine⟨by simp[h1],Qg7 (Q26.2 fun v hv'=>Q26.1 h2 v (List.mem_of_mem_take hv')) ⟨hv,Q26.2 fun v hv'=>Q26.1 h2 v (List.mem_of_mem_drop hv')⟩⟩
theorem g_fn(n:Int)(h:0<=n/\n < G.fns.length):allT G.p (G.fns.getD n.toNat ⟨[],default⟩).body/\∀i∈(G.fns.getD n.toNat ⟨[],default⟩).params,G.S i:=by
 have hl:n.toNat < G.fns.length:=by omega
 rw[List.getD_eq_getElem?_getD,List.getElem?_eq_getElem hl]
 exact hG.fn _ (List.getElem_mem hl)
theorem g_opN{t:Tr}(ht:allT G.p t):opdN t<=t.kids.length:=by
 have hsh:=g_sh hG ht
 unfold opdN
 split
 ·rename_i h
  rcases h with h|h|h|h <;> rw[h]at hsh
  ·rw[hsh.lett.1];omega
  ·rw[hsh.case.1];omega
  ·rw[hsh.handle.1];omega
  ·rw[(hsh.one (.inr (.inl rfl))).1];omega
 ·omega
theorem kidM_g{fu:Int}{m m':Ms}{f:Fm}{k:List Fm}(ht:allT G.p f.t)(he:gE G f.e)(hd:gVs G f.done)(hl:f.done.length<=opdN f.t)(hn:nLf f.t.op)(hk:gFs G k)(hh:∀r∈m.heap,r.length<=1024/\gVs G r)(h:kidM fu G.fns m f k=.ok m'):gM G m':=by
 have hsh:=g_sh hG ht
 have hop:=g_opN hG ht
 have hv:=Q34 hd 0
 unfold kidM at h
 split at h
 ·rename_i hlt
  cases h
  refine⟨⟨Q37 ht (by omega),he⟩,⟨?_,hk⟩,hh⟩
  cases f;exact⟨ht,he,hd,hlt,hn⟩
 rename_i hge
 split at h
 ·rename_i h4
  cases h
  rw[h4]at hsh
  obtain⟨h1,h2,h3⟩:=hsh.lett
  refine⟨⟨Q37 ht (by omega),?_,hv,he⟩,hk,hh⟩
  have:=g_bnd hG ht
  unfold Q08 at this
  rw[if_pos (by omega)]at this
  match hb:f.t.binds,h2 with
  |[x],_=>rw[hb]at this;exact this x (by simp)
 split at h
 ·rename_i h7
  unfold Qcz at h
  split at h
  ·rename_i tag fs hobj
   cases hc:Q4k tag fs f.e f.t.kids 0 f.t.alts with
   |error c=>rw[hc]at h;cases h
   |ok c=>
    rw[hc]at h
    cases h
    rw[hobj]at hv
    exact⟨Qf3 hG ht h7 he hv _ 0 rfl hc,hk,hh⟩
  ·cases h
 split at h
 ·rename_i h3
  have hd1:gVs G (f.done.drop 1):=Q26.2 fun v hv'=>Q26.1 hd v (List.mem_of_mem_drop hv')
  unfold callM at h
  split at h
  ·rename_i t e hclo
   rw[hclo]at hv
   split at h
   ·cases h
    have h1:=g_sh hG hv.2.1
    have h2:=g_bnd hG hv.2.1
    rw[hv.1]at h1
    unfold Q08 at h2
    rw[hv.1,if_pos (by simp)]at h2
    refine⟨⟨Q37 hv.2.1 (by have:=h1.lam.1;omega),Q9m hv.2.2 hd1 fun i hi=>h2 i (List.mem_append.2 (.inl hi))⟩,hk,hh⟩
   ·cases h
  ·rename_i n slots hcap
   rw[hcap]at hv
   split at h
   ·cases h
    have:=g_fn hG n hv.1
    exact⟨⟨this.1,Q9m trivial ⟨hv,hd1⟩ this.2⟩,hk,hh⟩
   ·cases h
  ·rename_i fs hres
   rw[hres]at hv
   split at h
   ·rename_i a ha
    cases h
    rw[ha]at hd1
    exact⟨hd1.1,Qg8 hv.2 hk,hh⟩
   ·cases h
  ·cases h
 split at h
 ·rename_i h13
  cases h
  rw[h13]at hsh
  obtain⟨h1,h2,h3,h4⟩:=hsh.handle
  refine⟨⟨Q37 ht (by omega),?_,hv,he⟩,hk,hh⟩
  obtain⟨a,ha⟩:∃a,f.t.alts[0]?=some a:=⟨_,List.getElem?_eq_getElem (by omega)⟩
  have hb:=(h4 0 a ha).2
  rw[if_pos rfl]at hb
  have hS:=Qma hG ht ha
  have hga:f.t.alts.getD 0 ⟨0,[]⟩=a:=by rw[List.getD_eq_getElem?_getD,ha];rfl
  rw[hga]
  match hab:a.binds,hb with
  |[x],_=>rw[hab]at hS;exact hS x (by simp)
 split at h
 ·rename_i h12
  exact Qau hG (hG.rs _ (Q2n ht) h12) (l:=[]) hv hh trivial hk h
 split at h
 ·rename_i h14
  cases h
  have:=g_fn hG f.t.n (hG.cl _ (Q2n ht) (.inl h14))
  exact⟨⟨this.1,Q9m trivial hd this.2⟩,hk,hh⟩
 split at h
 ·rename_i h15
  cases h
  exact⟨⟨hG.cl _ (Q2n ht) (.inr h15),hd⟩,hk,hh⟩
 split at h
 ·split at h
  ·rename_i n slots hcap
   rw[hcap]at hv
   split at h
   ·cases h;exact⟨Q34 hv.2 _,hk,hh⟩
   ·cases h
  ·cases h
 ·rename_i h4 h7 h3 h13 h12 h14 h15 h16
  cases hp:Q4p fu { m with k:=k } f.t f.done with
  |error c=>rw[hp]at h;cases h
  |ok mv=>
   obtain⟨m2,v2⟩:=mv
   rw[hp]at h
   cases h
   have hlen:f.done.length=f.t.kids.length:=by
    unfold opdN at hge hl
    rw[if_neg (by omega)]at hge hl
    omega
   obtain⟨g1,g2⟩:=Qnl hG (m:={ m with k:=k }) ht hlen hd hh hp
   refine⟨g1,?_,g2⟩
   rw[(Q7y hp).2.2];exact hk
theorem Qn9{fu:Int}{m m':Ms}{t:Tr}{e:En}(ht:allT G.p t)(he:gE G e)(hk:gFs G m.k)(hh:∀r∈m.heap,r.length<=1024/\gVs G r)(h:Q3c fu G.fns m t e=.ok m'):gM G m':=by
 unfold Q3c at h
 split at h
 ·cases h;exact⟨Qg9 hG he,hk,hh⟩
 split at h
 ·rename_i h1
  cases h;exact⟨hG.wd _ (Q2n ht) h1,hk,hh⟩
 split at h
 ·rename_i h2
  cases h;exact⟨⟨h2,ht,he⟩,hk,hh⟩
 split at h
 ·cases h
 split at h
 ·rename_i h5
  cases h
  have hsh:=g_sh hG ht
  rw[h5]at hsh
  exact⟨⟨Q37 ht (by have:=hsh.recs.1;omega),h5,ht,he⟩,hk,hh⟩
 ·rename_i h0 h1 h2 h17 h5
  exact kidM_g hG (f:=.mk t e []) ht he trivial (Nat.zero_le _) (fun hh=>hh.elim h0 fun hh=>hh.elim h1 fun hh=>hh.elim h2 fun hh=>hh.elim h17 h5) hk hh h
theorem Qhd{fu:Int}{m m':Ms}(hm:gM G m)(h:Q1d fu G.fns m=.next m'):gM G m':=by
 unfold Q1d at h
 split at h
 ·rename_i v hc
  have hv:gV G v:=by have:=hm.c;rw[hc]at this;exact this
  split at h
  ·cases h
  ·rename_i f k hk
   have hf:=hm.k
   rw[hk]at hf
   split at h
   ·rename_i m2 hkid
    cases h
    obtain⟨g1,g2,g3,g4,g5⟩:=gF_iff.1 hf.1
    exact kidM_g hG (f:=.mk f.t f.e (f.done++[v])) g1 g2 (Qg7 (b:=[v]) g3 ⟨hv,trivial⟩) (by simp only[Fm.done_mk,Fm.t_mk,List.length_append,List.length_singleton];omega) g5 hf.2 hm.h hkid
   ·cases h
 ·rename_i t e hc
  have ht:allT G.p t/\gE G e:=by have:=hm.c;rw[hc]at this;exact this
  split at h
  ·cases h
  ·split at h
   ·rename_i m2 hst
    cases h
    exact Qn9 hG (m:={ m with steps:=m.steps+1 }) ht.1 ht.2 hm.k hm.h hst
   ·cases h
end
end Go.CoreX
namespace Go.CoreX
structure Sim where
 ν:Int->Int
 eb:En
 kb:List Fm
 ob:List Int
 hb:List (List Vl)
 st:Int
section
variable {s:Sim}{G:GP}
section
variable (ν:Int->Int)(t:Tr)
end
end
end Go.CoreX
namespace Go.CoreX
section
variable {s:Sim}{G:GP}
def goX (fu:Int)(fns:List Fun):Nat->Ms->Option Rd
 |0,_=>none
 |g+1,m=>match Q1d fu fns m with
  |.next m'=>goX fu fns g m'
  |r=>some r
def outR:Rd->Nat
 |.done m _=>m.out.length
 |.trap _ m=>m.out.length
 |.next m=>m.out.length
 |.fuel=>1001
theorem Qnj{fu:Int}{m m':Ms}{n:Int}{l:List Vl}{v:Vl}(h:primM fu m n l=.ok (m',v)):m.out.length<=m'.out.length:=by
 unfold primM at h
 repeat' split at h
 all_goals try (simp only[bind,Except.bind,pure,Except.pure]at h;repeat' split at h)
 all_goals try (cases h;done)
 all_goals try (cases h;exact Nat.le_refl _)
 ·cases h;simp
 ·unfold Qii at h
  repeat' split at h
  all_goals try (cases h;done)
  cases h;exact Nat.le_refl _
 ·unfold Qd2 at h
  simp only[bind,Except.bind,pure,Except.pure]at h
  repeat' split at h
  all_goals try (cases h;done)
  all_goals (cases h;exact Nat.le_refl _)
theorem Ql2{fu:Int}{m m':Ms}{t:Tr}{l:List Vl}{v:Vl}(h:Q4p fu m t l=.ok (m',v)):m.out.length<=m'.out.length:=by
 unfold Q4p at h
 repeat' split at h
 ·cases h;exact Nat.le_refl _
 ·exact Qnj h
 ·cases h;exact Nat.le_refl _
 ·simp only[bind,Except.bind,pure,Except.pure]at h
  repeat' split at h
  all_goals try (cases h;done)
  all_goals (cases h;exact Nat.le_refl _)
 ·simp only[bind,Except.bind,pure,Except.pure]at h
  repeat' split at h
  all_goals try (cases h;done)
  all_goals (cases h;exact Nat.le_refl _)
theorem Q92{m m':Ms}{op:Int}{v:Vl}:∀(l k:List Fm),Q16 m op v l k=.ok m'->m'.out=m.out
 |_,[],h=>by cases h
 |l,f::k,h=>by
  unfold Q16 at h
  split at h
  ·cases h;rfl
  ·exact Q92 _ k h
theorem Qlq{fu:Int}{fns:List Fun}{m m':Ms}{f:Fm}{k:List Fm}(h:kidM fu fns m f k=.ok m'):m.out.length<=m'.out.length:=by
 unfold kidM at h
 repeat' split at h
 all_goals try (cases h;done)
 all_goals try (cases h;exact Nat.le_refl _)
 ·unfold Qcz at h
  split at h
  ·cases hc:Q4k _ _ f.e f.t.kids 0 f.t.alts <;> rw[hc]at h <;> cases h
   exact Nat.le_refl _
  ·cases h
 ·unfold callM at h
  repeat' split at h
  all_goals try (cases h;done)
  all_goals (cases h;exact Nat.le_refl _)
 ·rw[Q92 _ _ h];exact Nat.le_refl _
 ·cases hp:Q4p fu { m with k:=k } f.t f.done with
  |error c=>rw[hp]at h;cases h
  |ok mv=>
   rw[hp]at h;cases h
   obtain⟨m2,v2⟩:=mv
   exact Ql2 (m:={ m with k:=k }) (m':=m2) hp
theorem Qkg{fu:Int}{fns:List Fun}{m m':Ms}{t:Tr}{e:En}(h:Q3c fu fns m t e=.ok m'):m.out.length<=m'.out.length:=by
 unfold Q3c at h
 repeat' split at h
 all_goals try (cases h;done)
 all_goals try (cases h;exact Nat.le_refl _)
 exact Qlq h
theorem Qkq{fu:Int}{fns:List Fun}{m m':Ms}(h:Q1d fu fns m=.next m'):m.out.length<=m'.out.length:=by
 unfold Q1d at h
 repeat' split at h
 all_goals try (cases h;done)
 ·rename_i hk;cases h;exact Qlq hk
 ·rename_i hk;cases h;exact Qkg (m:={ m with steps:=m.steps+1 }) hk
theorem Qm9{fu:Int}{fns:List Fun}:∀{g:Nat}{m:Ms}{r:Rd},goX fu fns g m=some r->m.out.length<=outR r∨r=.fuel
 |0,_,_,h=>by cases h
 |g+1,m,r,h=>by
  simp only[goX]at h
  cases hr:Q1d fu fns m with
  |next m'=>
   rw[hr]at h
   rcases Qm9 h with h1|h1
   ·exact .inl (Nat.le_trans (Qkq hr) h1)
   ·exact .inr h1
  |done m' v=>
   rw[hr]at h;cases h
   unfold Q1d at hr
   repeat' split at hr
   all_goals try (cases hr;done)
   cases hr;exact .inl (Nat.le_refl _)
  |fuel=>rw[hr]at h;cases h;exact .inr rfl
  |trap c m'=>
   rw[hr]at h;cases h
   unfold Q1d at hr
   repeat' split at hr
   all_goals try (cases hr;done)
   all_goals (cases hr;exact .inl (Nat.le_refl _))
def rdOf (m:Ms):Except Int Ms->Rd
 |.ok m'=>.next m'
 |.error c=>.trap c m
theorem Qc8{fu:Int}{fns:List Fun}{m:Ms}{t:Tr}{e:En}(hc:m.c=.ev t e)(h:¬m.steps=fu):Q1d fu fns m=rdOf { m with steps:=m.steps+1 } (Q3c fu fns { m with steps:=m.steps+1 } t e):=by
 unfold Q1d
 split
 ·rename_i hv;rw[hc]at hv;cases hv
 ·rename_i hv;rw[hc]at hv;cases hv;rw[if_neg h];rfl
theorem Qc7{fu:Int}{fns:List Fun}{m:Ms}{v:Vl}{f:Fm}{k:List Fm}(hc:m.c=.rt v)(hk:m.k=f::k):Q1d fu fns m=rdOf m (kidM fu fns m (.mk f.t f.e (f.done++[v])) k):=by
 simp only[Q1d,hc,hk];rfl
end
end Go.CoreX
namespace Go.CoreX
theorem Qh6{fu:Int}{fns:List Fun}{m m':Ms}{t:Tr}{e:En}(h:Q3c fu fns m t e=.ok m'):m.steps<=m'.steps:=by
 unfold Q3c at h
 repeat' split at h
 all_goals try (cases h;done)
 all_goals try (cases h;exact Int.le_refl _)
 exact (Q7f h [] .nil (.inr ⟨rfl,rfl⟩)).ge
def stepsR:Rd->Int
 |.done m _=>m.steps
 |.trap _ m=>m.steps
 |.next m=>m.steps
 |.fuel=>0
theorem Qnf{fu:Int}{fns:List Fun}{m m':Ms}(h:Q1d fu fns m=.next m'):m.steps<=m'.steps:=by
 unfold Q1d at h
 repeat' split at h
 all_goals try (cases h;done)
 ·rename_i f k hk _ _ hkid;cases h;exact (Q7f hkid f.done _ (.inl rfl)).ge
 ·rename_i hst;cases h
  have:=Qh6 hst
  simp only at this;omega
theorem Qdt{fu:Int}{fns:List Fun}{m:Ms}{r:Rd}(h:Q1d fu fns m=r):(∀c m',r=.trap c m'->m.steps<=m'.steps)/\(∀m' v,r=.done m' v->m'=m/\m.c=.rt v/\m.k=[]):=by
 subst h
 constructor
 ·intro c m' h
  unfold Q1d at h
  repeat' split at h
  all_goals try (cases h;done)
  ·cases h;exact Int.le_refl _
  ·cases h;simp only;omega
 ·intro m' v h
  unfold Q1d at h
  repeat' split at h
  all_goals try (cases h;done)
  rename_i hc _ hk
  cases h;exact⟨rfl,hc,hk⟩
theorem goX_ge{fu:Int}{fns:List Fun}:∀{g:Nat}{m:Ms}{r:Rd},goX fu fns g m=some r->r≠.fuel->m.steps<=stepsR r
 |0,_,_,h,_=>by cases h
 |g+1,m,r,h,hf=>by
  simp only[goX]at h
  cases hr:Q1d fu fns m with
  |next m'=>rw[hr]at h;exact Int.le_trans (Qnf hr) (goX_ge h hf)
  |done m' v=>rw[hr]at h;cases h;rw[((Qdt hr).2 _ _ rfl).1];exact Int.le_refl _
  |fuel=>rw[hr]at h;cases h;exact absurd rfl hf
  |trap c m'=>rw[hr]at h;cases h;exact (Qdt hr).1 _ _ rfl
end Go.CoreX
namespace Go.Proofs.YtpaonemmbhbgoaaGreatDoor
open Go Go.Abs Go.CoreX
set_option linter.unusedSectionVars false
abbrev tClo:Nat:=185
abbrev tObj:Nat:=154
abbrev tRow:Nat:=221
abbrev tArr:Nat:=246
abbrev tRes:Nat:=212
abbrev tCap:Nat:=179
abbrev tTrap:Nat:=132
abbrev nilPE:AC:=.lit (.pointer none)
abbrev Hm:=Nat->Option (List AC)
abbrev Nm2:=List (Nat×Nat)
def iW (n:Int):AC:=.ifc 3 false [int n]
def iB (t:Nat)(cs:List AC):AC:=.ifc t false [.box cs]
inductive RecC (H:Hm)(t:Tr)(top:AC):Nat->AC->AC->Prop
 |zero (c:AC):RecC H t top 0 c c
 |succ (i k q:Nat) (c b:AC) (hk:H k=some [int (t.binds.getD i 0),.ifc tClo false [.ptr (.o q) 0],c]) (hq:H q=some [.box (cTr (t.kids.getD i default)),top]) (h:RecC H t top i c b):RecC H t top (i+1) (.ptr (.o k) 0) b
mutual
inductive VR (H:Hm)(nm:Nm2):Vl->AC->Prop
 |nil:VR H nm .nil (.lit .nilIface)
 |word (n:Int):VR H nm (.word n) (iW n)
 |clo (t:Tr) (e:En) (c:AC) (he:ER H nm e c):VR H nm (.clo t e) (iB tClo [.box (cTr t),c])
 |cloP (t:Tr) (e:En) (c:AC) (k:Nat) (hk:H k=some [.box (cTr t),c]) (he:ER H nm e c):VR H nm (.clo t e) (.ifc tClo false [.ptr (.o k) 0])
 |obj (g:Int) (fs:List Vl) (cs:List (List AC)) (h:VsR H nm fs cs):VR H nm (.obj g fs) (iB tObj [int g,.sl 1 cs])
 |row (ls:List Int) (fs:List Vl) (cs:List (List AC)) (h:VsR H nm fs cs):VR H nm (.row ls fs) (iB tRow [.sl 1 (ls.map cI),.sl 1 cs])
 |arr (a k n:Nat) (h:nm[a]?=some (k,n)):VR H nm (.arr a) (iB tArr [.arr (.o k) 1 0 n n])
 |res (fs:List Fm) (l:List (List AC)) (h:FsR H nm fs l):VR H nm (.res fs) (iB tRes [.sl 1 l])
 |cap (n:Int) (fs:List Vl) (cs:List (List AC)) (h:VsR H nm fs cs):VR H nm (.cap n fs) (iB tCap [int n,.sl 1 cs])
inductive VsR (H:Hm)(nm:Nm2):List Vl->List (List AC)->Prop
 |nil:VsR H nm [] []
 |cons (v:Vl) (c:AC) (vs:List Vl) (cs:List (List AC)) (hv:VR H nm v c) (h:VsR H nm vs cs):VsR H nm (v::vs) ([c]::cs)
inductive ER (H:Hm)(nm:Nm2):En->AC->Prop
 |nil:ER H nm .nil nilPE
 |bind (i:Int) (v:Vl) (n:En) (k:Nat) (vc nc:AC) (hk:H k=some [int i,vc,nc]) (hv:VR H nm v vc) (hn:ER H nm n nc):ER H nm (.bind i v n) (.ptr (.o k) 0)
 |recs (t:Tr) (n:En) (c nc:AC) (hc:RecC H t c t.binds.length c nc) (hn:ER H nm n nc):ER H nm (.recs t n) c
inductive FR (H:Hm)(nm:Nm2):Fm->AC->Prop
 |mk (t:Tr) (e:En) (d:List Vl) (ec:AC) (dc:List (List AC)) (nx:AC) (hx:nx.ids isO) (he:ER H nm e ec) (hd:VsR H nm d dc):FR H nm (.mk t e d) (.box [.box (cTr t),ec,.sl 1 dc,nx])
inductive FsR (H:Hm)(nm:Nm2):List Fm->List (List AC)->Prop
 |nil:FsR H nm [] []
 |cons (f:Fm) (c:AC) (fs:List Fm) (cs:List (List AC)) (hf:FR H nm f c) (h:FsR H nm fs cs):FsR H nm (f::fs) ([c]::cs)
end
inductive KR (H:Hm)(nm:Nm2):List Fm->AC->Prop
 |nil:KR H nm [] nilPE
 |cons (t:Tr) (e:En) (d:List Vl) (k:List Fm) (ec:AC) (dc:List (List AC)) (kc:AC) (he:ER H nm e ec) (hd:VsR H nm d dc) (hk:KR H nm k kc):KR H nm (.mk t e d::k) (.box [.box (cTr t),ec,.sl 1 dc,kc])
structure Mo (H:Hm)(nm:Nm2)(H':Hm)(nm':Nm2):Prop where
 h:∀k cs,H k=some cs->H' k=some cs
 n:∀(a:Nat) (x:Nat×Nat),nm[a]?=some x->nm'[a]?=some x
theorem Mo.refl(H:Hm)(nm:Nm2):Mo H nm H nm:=⟨fun _ _ h=>h,fun _ _ h=>h⟩
theorem Mo.trans{H H1 H2:Hm}{n n1 n2:Nm2}(a:Mo H n H1 n1)(b:Mo H1 n1 H2 n2):Mo H n H2 n2:=⟨fun k cs h=>b.h k cs (a.h k cs h),fun k x h=>b.n k x (a.n k x h)⟩
section
variable {H H':Hm}{nm nm':Nm2}(hm:Mo H nm H' nm')
include hm
theorem RecC.mo{t:Tr}{top:AC}:∀{i:Nat}{c b:AC},RecC H t top i c b->RecC H' t top i c b
 |_,_,_,.zero c=>.zero c
 |_,_,_,.succ i k q c b hk hq h=>.succ i k q c b (hm.h _ _ hk) (hm.h _ _ hq) (RecC.mo h)
mutual
theorem VR.mo:∀{v:Vl}{c:AC},VR H nm v c->VR H' nm' v c
 |_,_,.nil=>.nil
 |_,_,.word n=>.word n
 |_,_,.clo t e c he=>.clo t e c (ER.mo he)
 |_,_,.cloP t e c k hk he=>.cloP t e c k (hm.h _ _ hk) (ER.mo he)
 |_,_,.obj g fs cs h=>.obj g fs cs (VsR.mo h)
 |_,_,.row ls fs cs h=>.row ls fs cs (VsR.mo h)
 |_,_,.arr a k n h=>.arr a k n (hm.n _ _ h)
 |_,_,.res fs l h=>.res fs l (FsR.mo h)
 |_,_,.cap n fs cs h=>.cap n fs cs (VsR.mo h)
theorem VsR.mo:∀{v:List Vl}{c:List (List AC)},VsR H nm v c->VsR H' nm' v c
 |_,_,.nil=>.nil
 |_,_,.cons v c vs cs hv h=>.cons v c vs cs (VR.mo hv) (VsR.mo h)
theorem ER.mo:∀{e:En}{c:AC},ER H nm e c->ER H' nm' e c
 |_,_,.nil=>.nil
 |_,_,.bind i v n k vc nc hk hv hn=>.bind i v n k vc nc (hm.h _ _ hk) (VR.mo hv) (ER.mo hn)
 |_,_,.recs t n c nc hc hn=>.recs t n c nc (RecC.mo hm hc) (ER.mo hn)
theorem FR.mo:∀{f:Fm}{c:AC},FR H nm f c->FR H' nm' f c
 |_,_,.mk t e d ec dc nx hx he hd=>.mk t e d ec dc nx hx (ER.mo he) (VsR.mo hd)
theorem FsR.mo:∀{f:List Fm}{c:List (List AC)},FsR H nm f c->FsR H' nm' f c
 |_,_,.nil=>.nil
 |_,_,.cons f c fs cs hf h=>.cons f c fs cs (FR.mo hf) (FsR.mo h)
end
theorem KR.mo:∀{k:List Fm}{c:AC},KR H nm k c->KR H' nm' k c
 |_,_,.nil=>.nil
 |_,_,.cons t e d k ec dc kc he hd hk=>.cons t e d k ec dc kc (ER.mo hm he) (VsR.mo hm hd) (KR.mo hk)
end
section
variable {H:Hm}{nm:Nm2}
theorem RecC.ids{t:Tr}{top:AC}:∀{i:Nat}{c b:AC},RecC H t top i c b->b.ids isO->c.ids isO
 |_,_,_,.zero c,h=>h
 |_,_,_,.succ i k q c b hk hq h,_=>trivial
mutual
theorem VR.ids:∀{v:Vl}{c:AC},VR H nm v c->c.ids isO
 |_,_,.nil=>trivial
 |_,_,.word n=>by simp[iW,AC.ids,idsL]
 |_,_,.clo t e c he=>⟨⟨by simp,ER.ids he,trivial⟩,trivial⟩
 |_,_,.cloP t e c k hk he=>⟨trivial,trivial⟩
 |_,_,.obj g fs cs h=>⟨⟨trivial,VsR.ids h,trivial⟩,trivial⟩
 |_,_,.row ls fs cs h=>⟨⟨by simp,VsR.ids h,trivial⟩,trivial⟩
 |_,_,.arr a k n h=>⟨⟨trivial,trivial⟩,trivial⟩
 |_,_,.res fs l h=>⟨⟨FsR.ids h,trivial⟩,trivial⟩
 |_,_,.cap n fs cs h=>⟨⟨trivial,VsR.ids h,trivial⟩,trivial⟩
theorem VsR.ids:∀{v:List Vl}{c:List (List AC)},VsR H nm v c->idsS isO c
 |_,_,.nil=>trivial
 |_,_,.cons v c vs cs hv h=>⟨⟨VR.ids hv,trivial⟩,VsR.ids h⟩
theorem ER.ids:∀{e:En}{c:AC},ER H nm e c->c.ids isO
 |_,_,.nil=>trivial
 |_,_,.bind i v n k vc nc hk hv hn=>trivial
 |_,_,.recs t n c nc hc hn=>RecC.ids hc (ER.ids hn)
theorem FR.ids:∀{f:Fm}{c:AC},FR H nm f c->c.ids isO
 |_,_,.mk t e d ec dc nx hx he hd=>⟨by simp,ER.ids he,VsR.ids hd,hx,trivial⟩
theorem FsR.ids:∀{f:List Fm}{c:List (List AC)},FsR H nm f c->idsS isO c
 |_,_,.nil=>trivial
 |_,_,.cons f c fs cs hf h=>⟨⟨FR.ids hf,trivial⟩,FsR.ids h⟩
end
theorem KR.ids:∀{k:List Fm}{c:AC},KR H nm k c->c.ids isO
 |_,_,.nil=>trivial
 |_,_,.cons t e d k ec dc kc he hd hk=>⟨by simp,ER.ids he,VsR.ids hd,KR.ids hk,trivial⟩
theorem VsR.len:∀{v:List Vl}{c:List (List AC)},VsR H nm v c->c.length=v.length
 |_,_,.nil=>rfl
 |_,_,.cons v c vs cs hv h=>by simp[VsR.len h]
theorem VsR.get:∀{v:List Vl}{c:List (List AC)}{i:Nat}{x:Vl},VsR H nm v c->v[i]?=some x->∃y,c[i]?=some [y]/\VR H nm x y
 |_,_,i,x,.nil,hx=>by simp at hx
 |_,_,0,x,.cons v c vs cs hv h,hx=>by simp at hx;subst hx;exact⟨c,rfl,hv⟩
 |_,_,i+1,x,.cons v c vs cs hv h,hx=>VsR.get (i:=i) h (by simpa using hx)
theorem VsR.snoc:∀{v:List Vl}{c:List (List AC)}{x:Vl}{y:AC},VsR H nm v c->VR H nm x y->VsR H nm (v++[x]) (c++[[y]])
 |_,_,x,y,.nil,hx=>.cons x y [] [] hx .nil
 |_,_,x,y,.cons v c vs cs hv h,hx=>.cons v c _ _ hv (VsR.snoc h hx)
theorem FsR.snoc:∀{v:List Fm}{c:List (List AC)}{x:Fm}{y:AC},FsR H nm v c->FR H nm x y->FsR H nm (v++[x]) (c++[[y]])
 |_,_,x,y,.nil,hx=>.cons x y [] [] hx .nil
 |_,_,x,y,.cons v c vs cs hv h,hx=>.cons v c _ _ hv (FsR.snoc h hx)
end
variable {Γ:List (Nat×List AC)}
def unitF:FV:=.tup []
def trapE (c:Int):List PanicEntry:=[{ v:=.iface tTrap (.agg #[.int .i64 c]),recovered:=false }]
theorem conc3:Tryz.prog.concrete 3=true:=by kernel_rfl
theorem concClo:Tryz.prog.concrete tClo=true:=by kernel_rfl
theorem Qmi:Tryz.prog.concrete tObj=true:=by kernel_rfl
theorem concRes:Tryz.prog.concrete tRes=true:=by kernel_rfl
theorem concCap:Tryz.prog.concrete tCap=true:=by kernel_rfl
theorem z3(w:World):(zeroValue 3).run Tryz.prog w=.ok (.int .i64 0) w:=Q84 (by kernel_rfl) w
theorem zClo(w:World):(zeroValue tClo).run Tryz.prog w=.ok (.pointer none) w:=Q84 (by kernel_rfl) w
theorem zObj(w:World):(zeroValue tObj).run Tryz.prog w=.ok (.pointer none) w:=Q84 (by kernel_rfl) w
theorem zCap(w:World):(zeroValue tCap).run Tryz.prog w=.ok (.pointer none) w:=Q84 (by kernel_rfl) w
def notT (t:Nat)(c:AC):Prop:=c=.lit .nilIface∨∃t' ag cs,c=.ifc t' ag cs/\Nat.beq t' t=false
section
variable {H:Hm}{nm:Nm2}{v:Vl}{c:AC}
theorem VR.isWord(h:VR H nm v c):(∃n,v=.word n/\c=iW n)∨((∀n,v≠.word n)/\notT 3 c):=by
 cases h <;> first|exact .inl ⟨_,rfl,rfl⟩|exact .inr ⟨by simp,.inl rfl⟩|exact .inr ⟨by simp,.inr ⟨_,_,_,rfl,rfl⟩⟩
theorem VR.isObj(h:VR H nm v c):(∃g fs cs,v=.obj g fs/\c=iB tObj [int g,.sl 1 cs]/\VsR H nm fs cs)∨((∀g fs,v≠.obj g fs)/\notT tObj c):=by
 cases h <;> first|exact .inl ⟨_,_,_,rfl,rfl,‹_›⟩|exact .inr ⟨by simp,.inl rfl⟩|exact .inr ⟨by simp,.inr ⟨_,_,_,rfl,rfl⟩⟩
theorem VR.isRes(h:VR H nm v c):(∃fs l,v=.res fs/\c=iB tRes [.sl 1 l]/\FsR H nm fs l)∨((∀fs,v≠.res fs)/\notT tRes c):=by
 cases h <;> first|exact .inl ⟨_,_,rfl,rfl,‹_›⟩|exact .inr ⟨by simp,.inl rfl⟩|exact .inr ⟨by simp,.inr ⟨_,_,_,rfl,rfl⟩⟩
end
theorem Qgz(n:Int):APure Tryz.prog Γ 186 [.one (iW n)] (.one (int n)):=by
 intro ou
 refine AFn.walk 15 tabOk Tryz.func186 rfl (by kernel_rfl) rfl rfl fun hou=>?_
 refine zA ?_
 refine zS (AStep.assertYes conc3 rfl rfl) ?_
 refine zA ?_
 exact APure.fin rfl (WkF.ofEq rfl) (by simp) hou rfl
theorem Qo7(n:Int)(h0:-2305843009213693952<=n)(h1:n<=2305843009213693952):APure Tryz.prog Γ 185 [.one (int n)] (.one (int (wrapW n))):=by
 intro ou
 refine AFn.walk 7 tabOk Tryz.func185 rfl (by kernel_rfl) rfl rfl fun hou=>?_
 refine zM ?_
 refine zS (AStep.and rfl rfl rfl) ?_
 rw[Qj0]
 have h4:0<=(n - (-1073741824)) % 2147483648:=Int.emod_nonneg _ (by decide)
 have h5:(n - (-1073741824)) % 2147483648 < 2147483648:=Int.emod_lt_of_pos _ (by decide)
 refine zM ?_
 refine APure.fin rfl (WkF.ofEq ?_) (by simp) hou rfl
 unfold wrapW
 congr 3
theorem Qlk{H:Hm}{nm:Nm2}{v:Vl}{c:AC}(h:VR H nm v c):APure Tryz.prog Γ 91 [.one c] (.one (int (lastV v))):=by
 intro ou
 refine AFn.walk 17 tabOk Tryz.func91 rfl (by kernel_rfl) rfl rfl fun hou=>?_
 rcases h.isWord with ⟨n,rfl,rfl⟩|⟨hw,hn⟩
 ·refine zA ?_
  refine zS (AStep.assertYes conc3 rfl rfl) ?_
  refine zA ?_
  exact APure.fin rfl (WkF.ofEq rfl) (by simp) hou rfl
 ·refine zA ?_
  refine zS (AStep.assertNo conc3 rfl z3 rfl rfl hn) ?_
  refine zA ?_
  rcases h.isObj with ⟨g,fs,cs,rfl,rfl,h2⟩|⟨ho,hn2⟩
  ·refine zS (AStep.assertYes Qmi rfl rfl) ?_
   refine zA ?_
   exact APure.fin rfl (WkF.ofEq rfl) (by simp) hou rfl
  ·refine zS (AStep.assertNo Qmi rfl zObj rfl rfl hn2) ?_
   refine zA ?_
   refine APure.fin rfl (WkF.ofEq ?_) (by simp) hou rfl
   cases v <;> first|rfl|exact absurd rfl (hw _)|exact absurd rfl (ho _ _)
theorem Q96(t:Tr):APure Tryz.prog Γ 135 [.one (.box (cTr t))] (.one (int (opdN t))):=by
 intro ou
 refine AFn.walk 17 tabOk Tryz.func135 rfl (by kernel_rfl) rfl rfl fun hou=>?_
 unfold opdN
 repeat' first|refine zN ?_|(with_reducible refine oj ?_;refine AOps.splitS rfl rfl rfl rfl (fun hb=>?_) (fun hb=>?_))|(with_reducible refine ok ?_;first|refine ACode.condS rfl (fun hb=>?_) (fun hb=>?_)|refine ACode.cond rfl (fun hb=>?_) (fun hb=>?_))
 all_goals (refine APure.fin rfl (WkF.ofEq ?_) (by simp) hou rfl)
 all_goals (simp_all[int,Q5a])
theorem Qfi(id:Int)(vc ec:AC)(hv:vc.ids isO)(he:ec.ids isO)(ou:Outer):AFn Tryz.prog Γ 136 [.one ec,.one (int id),.one vc] ou
  (fun r ou'=>∃k,r=.one (.ptr (.o k) 0)/\NewO ou ou' [(k,.cells [int id,vc,ec])]):=by
 refine AFn.walk 12 tabOk Tryz.func136 rfl (by kernel_rfl) rfl rfl fun hou=>?_
 repeat ((fail_if_success ((with_reducible refine oj ?_);refine AOps.atDst 11 rfl ?_));first|refine zO ?_)
 (first|((with_reducible refine oj ?_);refine zau ?_)|(with_reducible refine zst ?_)|((with_reducible refine Q0k ?_ ?_);rfl)|(with_reducible refine ok ?_;first|refine ACode.condT rfl ?_|refine ACode.condF rfl ?_))
 refine AOps.cedes [0] rfl (by decide) hou fun k hk=>⟨[(11,.one (.ptr (.o k) 0))],[],[.cells [int id,vc,ec]],.cons rfl rfl .nil,.nil,?_,?_⟩
 ·exact .cons rfl (AObj.sub_f (fun i hi=>by cases i with|l q=>exact hi.elim|o q=>rfl) _ ⟨trivial,hv,he,trivial⟩) .nil
 have hN:=NewO.add hk hou (show (AObj.cells [int id,vc,ec]).ids isO from ⟨trivial,hv,he,trivial⟩)
 refine zA ?_
 exact AFn.fin' rfl (WkF.ofEq rfl) (by simp) hN.ok ⟨k,rfl,hN⟩
inductive Ch (H:Hm):AC->List (Int×AC)->Prop
 |nil:Ch H nilPE []
 |cons (i:Int) (k:Nat) (vc nc:AC) (l:List (Int×AC)) (hk:H k=some [int i,vc,nc]) (h:Ch H nc l):Ch H (.ptr (.o k) 0) ((i,vc)::l)
def lookI (id:Int):List (Int×AC)->AC
 |[]=>.lit .nilIface
 |(i,c)::l=>if i=id then c else lookI id l
theorem RecC.ch{H:Hm}{t:Tr}{top:AC}{b:AC}{lb:List (Int×AC)}(hb:Ch H b lb):∀{i:Nat}{c:AC},RecC H t top i c b->
  ∃l,Ch H c l/\∀id,(∃j q,Q9d t.binds id i=some j/\lookI id l=.ifc tClo false [.ptr (.o q) 0]/\H q=some [.box (cTr (t.kids.getD j default)),top])∨(Q9d t.binds id i=none/\lookI id l=lookI id lb)
 |_,_,.zero c=>⟨lb,hb,fun id=>.inr ⟨rfl,rfl⟩⟩
 |_,_,.succ i k q c b hk hq h=>by
  obtain⟨l,h1,h2⟩:=RecC.ch hb h
  refine⟨_,.cons _ k _ _ l hk h1,fun id=>?_⟩
  simp only[lookI,Q9d]
  by_cases e:t.binds.getD i 0=id
  ·exact .inl ⟨i,q,by rw[if_pos e],by rw[if_pos e],hq⟩
  ·rw[if_neg e,if_neg e];exact h2 id
theorem ER.ch{H:Hm}{nm:Nm2}:∀{e:En}{c:AC},ER H nm e c->∃l,Ch H c l/\∀id,VR H nm (findE id e) (lookI id l)
 |_,_,.nil=>⟨[],.nil,fun id=>by simp only[findE,lookI];exact .nil⟩
 |_,_,.bind i v n k vc nc hk hv hn=>by
  obtain⟨l,h1,h2⟩:=ER.ch hn
  refine⟨_,.cons i k vc nc l hk h1,fun id=>?_⟩
  simp only[findE,lookI]
  by_cases e:i=id
  ·rw[if_pos e,if_pos e];exact hv
  ·rw[if_neg e,if_neg e];exact h2 id
 |_,_,.recs t n c nc hc hn=>by
  obtain⟨l,h1,h2⟩:=ER.ch hn
  obtain⟨l',h3,h4⟩:=hc.ch h1
  refine⟨l',h3,fun id=>?_⟩
  simp only[findE]
  rcases h4 id with ⟨j,q,h5,h6,h7⟩|⟨h5,h6⟩
  ·rw[h5,h6]
   exact .cloP _ _ _ q h7 (.recs t n c nc hc hn)
  ·rw[h5,h6];exact h2 id
theorem Q1x{c:AC}(h:c.ids isO)(n:Nat):c.ids (inL n):=AC.ids_mono (fun i hi=>by cases i with|l k=>exact hi.elim|o k=>trivial) c h
theorem Q4d{c:List (List AC)}(h:idsS isO c)(n:Nat):idsS (inL n) c:=Q6l (fun i hi=>by cases i with|l k=>exact hi.elim|o k=>trivial) c h
def InOu (H:Hm)(ou:Outer):Prop:=∀k cs,H k=some cs->ou k=some (.cells cs)
theorem Qmc(hΓ:∀g cs,(g,cs)∈Γ->idsL isO cs){H:Hm}{c:AC}{l:List (Int×AC)}(hc:Ch H c l)(id:Int)(ou:Outer)(hH:InOu H ou)(hci:c.ids isO)(hli:(lookI id l).ids isO):
  AFn Tryz.prog Γ 143 [.one c,.one (int id)] ou (fun r ou'=>r=.one (lookI id l)/\ou'=ou):=by
 refine AFn.walk 21 tabOk Tryz.func143 rfl (by kernel_rfl) rfl rfl fun hou=>?_
 refine zA ?_
 refine ACode.loopR hΓ (α:=AC×List (Int×AC)) (fun a=>[(1,.one (int id)),(0,.one a.1)]) (fun a=>⟨0,[],ou⟩) (fun m a=>Ch H a.1 a.2/\lookI id a.2=lookI id l/\a.1.ids isO/\m=a.2.length) (a0:=(c,l)) (ρ:=_root_.id) ⟨hc,rfl,hci,rfl⟩ (LessR.of rfl zFW (by simp[Q1x hci]) zLO rfl rfl hou) fun m a ha=>?_
 obtain⟨c1,l1⟩:=a
 obtain⟨h1,h2,h3,rfl⟩:=ha
 dsimp only at h1 h2 h3 ⊢
 cases h1 with
 |nil=>
  refine zA ?_
  refine zS (AStep.neNil0 Tryz.underlying93 rfl rfl rfl) ?_
  refine zA ?_
  exact AFn.fin' (r':=.one (lookI id l)) rfl (WkF.ofEq (by rw[←h2];rfl)) hli hou ⟨rfl,rfl⟩
 |cons i k vc nc l2 hk hch=>
  have hx:=hH k _ hk
  have hids:idsL isO [int i,vc,nc]:=hou k _ hx
  have hnc:nc.ids isO:=hids.2.2.1
  refine zA ?_
  refine zS (AStep.neNil Tryz.underlying93 rfl rfl rfl) ?_
  repeat' first|refine zN ?_|((with_reducible refine oj ?_);first|refine zix ?_|refine zow rfl rfl hx ?_)
  refine ACode.cond rfl (fun hb=>?_) (fun hb=>?_)
  ·have he:i=id:=by simpa using hb
   repeat' first|refine zN ?_|((with_reducible refine oj ?_);first|refine zix ?_|refine zow rfl rfl hx ?_)
   exact AFn.fin' (r':=.one (lookI id l)) rfl (WkF.ofEq (by rw[←h2];simp[lookI,he])) hli hou ⟨rfl,rfl⟩
  ·have he:i≠id:=by simpa using hb
   repeat' first|refine zN ?_|((with_reducible refine oj ?_);first|refine zix ?_|refine zow rfl rfl hx ?_)
   exact cInv ⟨l2.length,(nc,l2),_root_.id,by simp,⟨hch,by rw[←h2];simp[lookI,he],hnc,rfl⟩,LessR.of rfl zFW (by simp[Q1x hnc]) zLO rfl rfl hou⟩
def Ql3:AObj->Prop
 |.cells _=>True
 |.tok _ _ _=>True
 |.dead=>True
 |_=>False
structure Gro (ou:Outer)(H:Hm)(ou':Outer)(H':Hm):Prop where
 h:∀k cs,H k=some cs->H' k=some cs
 new:∀k,H k=none->H' k≠none->ou k=none
 old:∀k o,ou k=some o->ou' k=some o
 inO:InOu H' ou'
 ok:OuOk ou'
 pl:∀k o,ou' k=some o->ou k=some o∨Ql3 o
theorem Gro.trans{ou ou1 ou2:Outer}{H H1 H2:Hm}(a:Gro ou H ou1 H1)(b:Gro ou1 H1 ou2 H2):Gro ou H ou2 H2:=by
 refine⟨fun k cs h=>b.h k cs (a.h k cs h),fun k h1 h2=>?_,fun k o h=>b.old k o (a.old k o h),b.inO,b.ok,fun k o h=>(b.pl k o h).elim (a.pl k o) .inr⟩
 by_cases h3:H1 k=none
 ·have:=b.new k h3 h2
  cases h4:ou k with
  |none=>rfl
  |some o=>rw[a.old k o h4]at this;cases this
 ·exact a.new k h1 h3
theorem Gro.mo{ou ou':Outer}{H H':Hm}(g:Gro ou H ou' H')(nm:Nm2):Mo H nm H' nm:=⟨g.h,fun _ _ h=>h⟩
def addH (H:Hm)(k:Nat)(cs:List AC):Hm:=fun j=>if j=k then some cs else H j
theorem Gro.add{ou ou':Outer}{H:Hm}(h:InOu H ou){k:Nat}{cs:List AC}(hN:NewO ou ou' [(k,.cells cs)]):Gro ou H ou' (addH H k cs):=by
 have hk:ou k=none:=hN.new k (by simp[keys])
 have hHk:H k=none:=by
  cases h1:H k with
  |none=>rfl
  |some c=>rw[h k c h1]at hk;cases hk
 have hold:∀j o,ou j=some o->ou' j=some o:=fun j o hj=>by
  rw[hN.old j (by simp[keys];rintro rfl;rw[hk]at hj;cases hj)];exact hj
 refine⟨fun j c hj=>?_,fun j h1 h2=>?_,hold,fun j c hj=>?_,hN.ok,fun j o hj=>?_⟩
 ·unfold addH
  rw[if_neg (by rintro rfl;rw[hHk]at hj;cases hj)];exact hj
 ·unfold addH at h2
  split at h2
  ·rename_i e;rw[e];exact hk
  ·exact absurd h1 h2
 ·unfold addH at hj
  split at hj
  ·rename_i e;subst e;cases hj
   exact hN.own (j,_) (by simp)
  ·exact hold j _ (h j c hj)
 ·by_cases e:j=k
  ·subst e
   have:=hN.own (j,_) (List.mem_singleton.2 rfl)
   rw[this]at hj;cases hj;exact .inr trivial
  ·rw[hN.old j (by simp[keys];exact e)]at hj;exact .inl hj
structure FcT where
 ac:AC
 kt:Nat
abbrev FcT.ids (fc:FcT)(p:Abs.Id->Prop):Prop:=fc.ac.ids p
def mC (tc ec vc kc:AC)(out:List Int)(st fu:Int)(fc:FcT):List AC:=[tc,ec,vc,kc,.gs 1 (out.map cI) (.o fc.kt),int st,int fu,fc.ac]
def ouX (mc:List AC)(n:Nat)(ou:Outer):Outer:=fun k=>match k with
 |0=>some (.cells mc)
 |k+1=>ou (k+1)
theorem Qe1{ou:Outer}{mc:List AC}{n:Nat}(h0:ou 0=some (.cells mc)):ou=ouX mc n ou:=by
 funext k
 match k with
 |0=>exact h0
 |k+1=>rfl
theorem setX(mc mc':List AC)(n:Nat)(ou:Outer):(⟨0,[],ouX mc n ou⟩:St).set (.o 0) (.cells mc')=⟨0,[],ouX mc' n ou⟩:=by
 simp only[St.set,St.mk.injEq,true_and]
 funext k
 match k with
 |0=>rfl
 |k+1=>simp[Q0a (show k+1≠0 by omega)];rfl
def TkR (ou:Outer)(H:Hm)(nm:Nm2):Prop:=∀cs,ou 0=some (.cells cs)->∀es i,cs[4]?=some (.gs 1 es i)->∃kt,i=.o kt/\1<=kt/\ou kt=some (.tok 3 1 es.length)/\H kt=none/\∀(a k n:Nat),nm[a]?=some (k,n)->k≠kt
structure WR (ou:Outer)(H:Hm)(nm:Nm2)(heap:List (List Vl)):Prop where
 inO:InOu H ou
 ok:OuOk ou
 len:nm.length=heap.length
 arr:∀(a k n:Nat),nm[a]?=some (k,n)->∃cs:List AC,ou k=some (.cells cs)/\VsR H nm (heap.getD a []) (cs.map fun c=>[c])/\n=cs.length
 aH:∀(a k n:Nat),nm[a]?=some (k,n)->H k=none
 aa:∀(a b k n n':Nat),nm[a]?=some (k,n)->nm[b]?=some (k,n')->a=b
 sep:H 0=none/\∀(a k n:Nat),nm[a]?=some (k,n)->1<=k
 tk:TkR ou H nm
 pl:∀k o,ou k=some o->Ql3 o
theorem WR.gro{ou ou':Outer}{H H':Hm}{nm:Nm2}{heap:List (List Vl)}(w:WR ou H nm heap)(g:Gro ou H ou' H')(h0:ou 0≠none)(h1:True):WR ou' H' nm heap:=by
 have hH:∀k,ou k≠none->H k=none->H' k=none:=fun k hk hh=>by
  cases h:H' k with
  |none=>rfl
  |some c=>exact absurd (g.new k hh (by rw[h];simp)) hk
 refine⟨g.inO,g.ok,w.len,fun a k n h=>?_,fun a k n h=>?_,w.aa,⟨hH 0 h0 w.sep.1,w.sep.2⟩,fun cs hc es i hi=>?_,fun k o hk=>(g.pl k o hk).elim (w.pl k o) id⟩
 ·obtain⟨cs,c1,c2,c3⟩:=w.arr a k n h
  exact⟨cs,g.old k _ c1,c2.mo (g.mo nm),c3⟩
 ·obtain⟨cs,c1,c2,c3⟩:=w.arr a k n h
  exact hH k (by rw[c1];simp) (w.aH a k n h)
 ·cases ho:ou 0 with
  |none=>exact absurd ho h0
  |some o=>
   have:=g.old 0 _ ho
   rw[hc]at this
   cases this
   obtain⟨kt,e1,e2,e3,e4,e5⟩:=w.tk cs ho es i hi
   exact⟨kt,e1,e2,g.old _ _ e3,hH kt (by rw[e3];simp) e4,e5⟩
theorem WR.put{mc mc':List AC}{n:Nat}{ou:Outer}{H:Hm}{nm:Nm2}{heap:List (List Vl)}(w:WR (ouX mc n ou) H nm heap)(hi:idsL isO mc'){ou':Outer}(h0:ou' 0=some (.cells mc'))(h1:mc'[4]?=mc[4]?)(h2:∀k,ou' (k+1)=ou (k+1)):WR ou' H nm heap:=by
 have e:∀k,1<=k->ou' k=ouX mc n ou k:=fun k hk=>by
  obtain⟨j,rfl⟩:∃j,k=j+1:=⟨k - 1,by omega⟩
  rw[h2];rfl
 have hk2:∀k cs,H k=some cs->1<=k:=fun k cs hk=>by
  match k with
  |0=>rw[w.sep.1]at hk;cases hk
  |k+1=>omega
 refine⟨fun k cs hk=>?_,fun k o hk=>?_,w.len,fun a k n h=>?_,w.aH,w.aa,w.sep,fun cs hc es i hi=>?_,fun k o hk=>?_⟩
 ·rw[e k (hk2 k cs hk)];exact w.inO k cs hk
 ·match k with
  |0=>rw[h0]at hk;cases hk;exact hi
  |k+1=>rw[e _ (by omega)]at hk;exact w.ok _ o hk
 ·rw[e k (w.sep.2 a k n h)];exact w.arr a k n h
 ·rw[h0]at hc;cases hc
  rw[h1]at hi
  obtain⟨kt,e1,e2,e3,e4,e5⟩:=w.tk mc rfl es i hi
  exact⟨kt,e1,e2,(e kt e2).trans e3,e4,e5⟩
 ·match k with
  |0=>rw[h0]at hk;cases hk;trivial
  |k+1=>rw[e _ (by omega)]at hk;exact w.pl _ o hk
inductive CR (H:Hm)(nm:Nm2):Ctl->AC->AC->AC->Prop
 |ev (t:Tr) (e:En) (ec vc:AC) (he:ER H nm e ec):CR H nm (.ev t e) (.box (cTr t)) ec vc
 |rt (v:Vl) (ec vc:AC) (hv:VR H nm v vc):CR H nm (.rt v) nilPE ec vc
structure M0 (fu:Int)(fc:FcT)(ou:Outer)(H:Hm)(nm:Nm2)(m:Ms)(tc ec vc kc:AC):Prop where
 ids:tc.ids isO/\ec.ids isO/\vc.ids isO/\kc.ids isO
 m0:ou 0=some (.cells (mC tc ec vc kc m.out m.steps fu fc))
 w:WR ou H nm m.heap
structure MR (fu:Int)(fc:FcT)(ou:Outer)(H:Hm)(nm:Nm2)(m:Ms):Prop where
 ex:∃kt tc ec vc kc,CR H nm m.c tc ec vc/\KR H nm m.k kc/\M0 fu ⟨fc.ac,kt⟩ ou H nm m tc ec vc kc
theorem MR.ok{fu:Int}{fc:FcT}{H:Hm}{nm:Nm2}{m:Ms}{ou:Outer}(h:MR fu fc ou H nm m):OuOk ou:=h.ex.choose_spec.choose_spec.choose_spec.choose_spec.choose_spec.2.2.w.ok
structure PR (ou:Outer)(m:Ms):Prop where
 ok:OuOk ou
 m0:∃tc ec vc kc fu fc,ou 0=some (.cells (mC tc ec vc kc m.out m.steps fu fc))
theorem M0.pr{fu:Int}{fc:FcT}{ou:Outer}{H:Hm}{nm:Nm2}{m:Ms}{tc ec vc kc:AC}(h:M0 fu fc ou H nm m tc ec vc kc):PR ou m:=⟨h.w.ok,⟨_,_,_,_,_,_,h.m0⟩⟩
def StQ (fu:Int)(fc:FcT)(H:Hm)(nm:Nm2)(x:Except Int Ms):FV->Outer->Prop:=fun r ou'=>r=unitF/\∃H' nm' m',x=.ok m'/\Mo H nm H' nm'/\MR fu fc ou' H' nm' m'
def StP (m:Ms)(x:Except Int Ms):List PanicEntry->Outer->Prop:=fun ps ou'=>∃c,x=.error c/\ps=trapE c/\PR ou' m
theorem M0.ouX{fu:Int}{fc:FcT}{ou:Outer}{H:Hm}{nm:Nm2}{m:Ms}{tc ec vc kc:AC}(h:M0 fu fc ou H nm m tc ec vc kc):ou=ouX (mC tc ec vc kc m.out m.steps fu fc) m.out.length ou:=Qe1 h.m0
theorem KR.cell{H:Hm}{nm:Nm2}{t:Tr}{e:En}{d:List Vl}{k:List Fm}{c:AC}(h:KR H nm (.mk t e d::k) c):∃ec dc kc,c=.box [.box (cTr t),ec,.sl 1 dc,kc]/\ER H nm e ec/\VsR H nm d dc/\KR H nm k kc:=by
 cases h with
 |cons _ _ _ _ ec dc kc he hd hk=>exact⟨ec,dc,kc,rfl,he,hd,hk⟩
theorem MR.ofEv{fu:Int}{fc:FcT}{mc:List AC}{n:Nat}{ou0 ou':Outer}{H:Hm}{nm:Nm2}{m:Ms}{e:En}{s:Tr}{k:List Fm}{ec vc kc:AC}(w:WR (ouX mc n ou0) H nm m.heap)(he:ER H nm e ec)(hk:KR H nm k kc)(hv:vc.ids isO)(hf:fc.ids isO)
  (h0:ou' 0=some (.cells (mC (.box (cTr s)) ec vc kc m.out m.steps fu fc))) (h1:mc[4]?=some (.gs 1 (m.out.map cI) (.o fc.kt))) (h2:∀k,ou' (k+1)=ou0 (k+1)):MR fu fc ou' H nm { m with c:=.ev s e,k:=k }:=
 have hi:idsL isO (mC (.box (cTr s)) ec vc kc m.out m.steps fu fc):=by simp[mC,he.ids,hk.ids,hv,hf]
 ⟨fc.kt,_,_,_,_,.ev s e ec vc he,hk,⟨by simp,he.ids,hv,hk.ids⟩,h0,w.put hi h0 h1.symm h2⟩
theorem MR.ofRt{fu:Int}{fc:FcT}{mc:List AC}{n:Nat}{ou0 ou':Outer}{H:Hm}{nm:Nm2}{m:Ms}{v:Vl}{k:List Fm}{ec vc kc:AC}(w:WR (ouX mc n ou0) H nm m.heap)(he:VR H nm v vc)(hk:KR H nm k kc)(hv:ec.ids isO)(hf:fc.ids isO)
  (h0:ou' 0=some (.cells (mC nilPE ec vc kc m.out m.steps fu fc))) (h1:mc[4]?=some (.gs 1 (m.out.map cI) (.o fc.kt))) (h2:∀k,ou' (k+1)=ou0 (k+1)):MR fu fc ou' H nm { m with c:=.rt v,k:=k }:=
 have hi:idsL isO (mC nilPE ec vc kc m.out m.steps fu fc):=by simp[mC,he.ids,hk.ids,hv,hf,nilPE]
 ⟨fc.kt,_,_,_,_,.rt v ec vc he,hk,⟨trivial,hv,he.ids,hk.ids⟩,h0,w.put hi h0 h1.symm h2⟩
theorem Qnw(hΓ:∀g cs,(g,cs)∈Γ->idsL isO cs){fu:Int}{fc:FcT}{fns:List Fun}{ou:Outer}{H:Hm}{nm:Nm2}{m:Ms}{tc0 ec0 vc0 kc0:AC}(h0:M0 fu fc ou H nm m tc0 ec0 vc0 kc0)(hfc:fc.ids isO)
  {t:Tr}{e:En}{d:List Vl}{k:List Fm}{ec:AC}{dc:List (List AC)}{kc:AC}(he:ER H nm e ec) (hd:VsR H nm d dc) (hk:KR H nm k kc){s:Tr}(hlt:d.length < opdN t) (hs:t.kids[d.length]?=some s):
  AFnP Tryz.prog Γ 111 [.one (.ptr (.o 0) 0),.one (.box [.box (cTr t),ec,.sl 1 dc,kc])] ou (StQ fu fc H nm (kidM fu fns m (.mk t e d) k)) (StP m (kidM fu fns m (.mk t e d) k)):=by
 have hoX:=h0.ouX
 have hei:=he.ids
 have hdi:=hd.ids
 have hki:=hk.ids
 have hdl:=hd.len
 rw[hoX]
 have hw:=h0.w
 rw[hoX]at hw
 generalize hmc:ou=ou0 at hw
 clear hoX
 refine AFnP.walk 262 tabOk hΓ Tryz.func111 rfl (by kernel_rfl) rfl rfl fun hou=>?_
 refine zA ?_
 refine ACode.drawX tabOk 10 [(9,.one (int (opdN t)))] follows (by kernel_rfl) rfl rfl rfl rfl ?_ ?_
 ·exact⟨⟨_,rfl,AStep.callPure hΓ rfl rfl rfl (by simp[idsF]) hou (Q96 t)⟩,trivial⟩
 refine zA ?_
 refine ACode.cond rfl (fun hb=>?_) (fun hb=>absurd hb (by simp[hdl];exact hlt))
 refine zA ?_
 have hsc:(Q0y t.kids)[d.length]?=some [.box (cTr s)]:=Q2g hs
 generalize hM:ouX (mC tc0 ec0 vc0 kc0 m.out m.steps fu fc) m.out.length ou0=ou1 at hou hw ⊢
 subst hM
 refine ACode.drawC2 tabOk 28 [24,25,26,27] [(15,.one (.box [.box (cTr s)]))] (fun vs σ=>match vs with
   |[]=>σ=⟨0,[],ouX (mC tc0 ec0 vc0 kc0 m.out m.steps fu fc) m.out.length ou0⟩
   |[_]=>σ=⟨0,[],ouX (mC (.box (cTr s)) ec0 vc0 kc0 m.out m.steps fu fc) m.out.length ou0⟩
   |[_,v]=>v=.one (.ptr (.o 0) 0)/\σ=⟨0,[],ouX (mC (.box (cTr s)) ec0 vc0 kc0 m.out m.steps fu fc) m.out.length ou0⟩
   |[_,v,w]=>v=.one (.ptr (.o 0) 0)/\w=.one (.ptr (.o 0) 1)/\σ=⟨0,[],ouX (mC (.box (cTr s)) ec0 vc0 kc0 m.out m.steps fu fc) m.out.length ou0⟩
   |[_,v,w,_]=>v=.one (.ptr (.o 0) 0)/\w=.one (.ptr (.o 0) 1)/\σ=⟨0,[],ouX (mC (.box (cTr s)) ec vc0 kc0 m.out m.steps fu fc) m.out.length ou0⟩
   |_=>False) follows (by kernel_rfl) rfl rfl (by decide) (by kernel_rfl) (by kernel_rfl) rfl rfl ?_ ?_ (by decide) ?_ ?_
 ·intro vs σ h
  match vs with
  |[]=>subst h;rfl
  |[_]=>subst h;rfl
  |[_,_]=>obtain⟨_,rfl⟩:=h;rfl
  |[_,_,_]=>obtain⟨_,_,rfl⟩:=h;rfl
  |[_,_,_,_]=>obtain⟨_,_,rfl⟩:=h;rfl
  |_::_::_::_::_::_=>exact h.elim
 ·intro vs σ h
  exact⟨⟨_,rfl,zIA rfl rfl rfl (by omega) (by simpa[hdl]using hsc)⟩,trivial⟩
 ·intro vs σ h i o hi ho
  match vs with
  |[]=>subst h;cases hi;cases ho;exact⟨rfl,.inl (.inl ⟨.bot,_,AStep.ofStore tabOk rfl,setX _ _ _ _⟩)⟩
  |[_]=>subst h;cases hi;cases ho;exact⟨rfl,.inl (.inl ⟨_,_,AStep.ofOp tabOk rfl,rfl,rfl⟩)⟩
  |[_,_]=>obtain⟨rfl,rfl⟩:=h;cases hi;cases ho;exact⟨rfl,.inl (.inl ⟨_,_,AStep.ofOp tabOk rfl,rfl,rfl,rfl⟩)⟩
  |[_,_,_]=>obtain⟨rfl,rfl,rfl⟩:=h;cases hi;cases ho;exact⟨rfl,.inl (.inl ⟨.bot,_,AStep.ofStore tabOk rfl,rfl,rfl,setX _ _ _ _⟩)⟩
  |_::_::_::_::_=>cases hi
 ·intro vs σ hl h
  match vs with
  |[_,_,_,_]=>
   obtain⟨rfl,rfl,rfl⟩:=h
   refine zA ?_
   have hM:MR fu fc _ H nm { m with c:=.ev s e,k:=.mk t e d::k }:=MR.ofEv (ou':=(St.set ⟨0,[],ouX (mC (.box (cTr s)) ec vc0 kc0 m.out m.steps fu fc) m.out.length ou0⟩ (.o 0) (.cells (mC (.box (cTr s)) ec vc0 (.box [.box (cTr t),ec,.sl 1 dc,kc]) m.out m.steps fu fc))).ou) hw he (.cons t e d k ec dc kc he hd hk) h0.ids.2.2.1 hfc rfl rfl (fun _=>rfl)
   refine AFn.fin' rfl (WkF.refl _) (by simp) hM.ok ⟨rfl,H,nm,_,?_,.refl _ _,hM⟩
   unfold kidM
   rw[if_pos (show (Fm.mk t e d).done.length < opdN (Fm.mk t e d).t from hlt)]
   simp only[Fm.done_mk,Fm.t_mk,Fm.e_mk]
   rw[List.getD_eq_getElem?_getD,hs]
   rfl
  |[]|[_]|[_,_]|[_,_,_]=>cases hl
  |_::_::_::_::_::_=>exact h.elim
theorem ACode.stEq{E:Env}{c:Code}{K:Cont}{fr:Fr}{σ σ':St}(h:σ=σ')(k:ACode E c K fr σ'):ACode E c K fr σ:=h▸k
def GrP (mc:List AC)(n:Nat)(ou0:Outer)(H:Hm)(mc':List AC)(R:FV->Hm->Prop):FV->St->Prop:=fun v σ=>∃ou1 H1,σ=⟨0,[],ouX mc' n ou1⟩/\Gro (ouX mc n ou0) H (ouX mc n ou1) H1/\R v H1
theorem GrP.of{mc:List AC}{n:Nat}{ou0 ou':Outer}{H H1:Hm}{R:FV->Hm->Prop}{v:FV}(g:Gro (ouX mc n ou0) H ou' H1)(h:R v H1):GrP mc n ou0 H mc R v ⟨0,[],ou'⟩:=by
 have e:=Qe1 (n:=n) (g.old 0 _ rfl)
 refine⟨ou',H1,by rw[←e],?_,h⟩
 rw[←e];exact g
section
variable {fu:Int}{fc:FcT}{fns:List Fun}{ou:Outer}{H:Hm}{nm:Nm2}{m:Ms}{tc0 ec0 vc0 kc0:AC}{t:Tr}{e:En}{d:List Vl}{k:List Fm}{ec:AC}{dc:List (List AC)}{kc:AC}
end
section
variable {fu:Int}{fc:FcT}{fns:List Fun}{ou:Outer}{H:Hm}{nm:Nm2}{m:Ms}{tc0 ec0 vc0 kc:AC}{t:Tr}{e:En}{d:List Vl}{k:List Fm}{ec:AC}{dc:List (List AC)}
end
section
variable {fu:Int}{fc:FcT}{fns:List Fun}{ou:Outer}{H:Hm}{nm:Nm2}{m:Ms}{tc0 ec0 vc0 kc:AC}{k:List Fm}
end
theorem AFnP.toF{P:Program}{g:Nat}{args:List FV}{ou:Outer}{Q:FV->Outer->Prop}{QP:List PanicEntry->Outer->Prop}(h:AFnP P Γ g args ou Q QP)(hn:∀ps ou',¬QP ps ou'):AFn P Γ g args ou Q:=
 ⟨h.1,fun F w C cargs h0 hi hr=>(h.2 F w C cargs h0 hi hr).mono fun e w' hh=>hh.elim id fun ⟨ps,ou',C',_,_,_,_,hq⟩=>(hn _ _ hq).elim⟩
theorem AFnP.okStep{fu:Int}{fc:FcT}{H:Hm}{nm:Nm2}{m:Ms}{x:Except Int Ms}{m':Ms}{g:Nat}{args:List FV}{ou:Outer}(h:AFnP Tryz.prog Γ g args ou (StQ fu fc H nm x) (StP m x))(hx:x=.ok m'):AFn Tryz.prog Γ g args ou (StQ fu fc H nm x):=
 AFnP.toF h fun ps ou' ⟨c,hc,_⟩=>by rw[hx]at hc;cases hc
def inW (n:Int):Prop:=-1073741824<=n/\n<=1073741823
section
variable {H:Hm}{nm:Nm2}
theorem VsR.nilE{cs:List (List AC)}(h:VsR H nm [] cs):cs=[]:=by cases h;rfl
theorem VsR.consE{v:Vl}{l:List Vl}{cs:List (List AC)}(h:VsR H nm (v::l) cs):∃c ds,cs=[c]::ds/\VR H nm v c/\VsR H nm l ds:=by
 cases h with
 |cons _ c _ ds hv hl=>exact⟨c,ds,rfl,hv,hl⟩
theorem VR.wordE{n:Int}{c:AC}(h:VR H nm (.word n) c):c=iW n:=by cases h;rfl
end
end Go.Proofs.YtpaonemmbhbgoaaGreatDoor
namespace Go.Abs
section
variable {E:Env}{o:Oper}{fr:Fr}{σ:St}{t T0 el yt:TypeId}{x y:Operand}
end
end Go.Abs
namespace Go.Proofs.YtpaonemmbhbgoaaGreatDoor
open Go Go.Abs Go.CoreX
variable {Γ:List (Nat×List AC)}
section
variable {fu:Int}{fc:FcT}{fns:List Fun}{ou:Outer}{H:Hm}{nm:Nm2}{m:Ms}{ec vc kc:AC}{t:Tr}{e:En}
theorem StQ.fin{E:Env}{fn:Func}{fr:Fr}{σ:St}{H':Hm}{nm':Nm2}{x:Except Int Ms}{m':Ms}(h:aRes E.T fr σ fn.results.toList=some unitF)(hx:x=.ok m')(hm:Mo H nm H' nm')(hM:MR fu fc σ.ou H' nm' m'):Fin E fn (StQ fu fc H nm x) fr σ:=
 AFn.fin' h (WkF.refl _) (by simp[unitF]) hM.ok ⟨rfl,H',nm',m',hx,hm,hM⟩
def Qd6 (fu:Int)(fc:FcT)(ou:Outer)(H:Hm)(nm:Nm2)(m':Ms)(Γ:List (Nat×List AC)):Prop:=AFn Tryz.prog Γ 113 [.one (.ptr (.o 0) 0)] ou (StQ fu fc H nm (.ok m'))
theorem Qkh(hΓ:∀g cs,(g,cs)∈Γ->idsL isO cs)(h0:M0 fu fc ou H nm m (.box (cTr t)) ec vc kc)(hfc:fc.ids isO)(hk:KR H nm m.k kc)(h1:t.op=1):Qd6 fu fc ou H nm { m with c:=.rt (.word t.n) } Γ:=by
 unfold Qd6
 have hoX:=h0.ouX
 rw[hoX]
 have hw:=h0.w
 rw[hoX]at hw
 generalize hmc:ou=ou0 at hw
 clear hoX
 refine AFn.walk 149 tabOk Tryz.func113 rfl (by kernel_rfl) rfl rfl fun hou=>?_
 cases t with
 |mk to tn tb tk ta=>
 obtain rfl:to=1:=h1
 refine zA ?_
 refine zS (AStep.mkIfc conc3 rfl rfl) ?_
 refine zA ?_
 exact StQ.fin rfl rfl (.refl _ _) (MR.ofRt hw (.word tn) hk h0.ids.2.1 hfc rfl rfl (fun _=>rfl))
theorem Qkf(hΓ:∀g cs,(g,cs)∈Γ->idsL isO cs)(h0:M0 fu fc ou H nm m (.box (cTr t)) ec vc kc)(hfc:fc.ids isO)(he:ER H nm e ec)(hk:KR H nm m.k kc)(h1:t.op=0):Qd6 fu fc ou H nm { m with c:=.rt (findE t.n e) } Γ:=by
 unfold Qd6
 have hei:=he.ids
 have hki:=hk.ids
 have hoX:=h0.ouX
 rw[hoX]
 have hw:=h0.w
 rw[hoX]at hw
 generalize hmc:ou=ou0 at hw
 clear hoX
 obtain⟨l,hch,hfd⟩:=he.ch
 have hv:=hfd t.n
 have hvi:=hv.ids
 refine AFn.walk 149 tabOk Tryz.func113 rfl (by kernel_rfl) rfl rfl fun hou=>?_
 cases t with
 |mk to tn tb tk ta=>
 obtain rfl:to=0:=h1
 have hw1:WR (ouX (mC nilPE ec vc kc m.out m.steps fu fc) m.out.length ou0) H nm m.heap:=hw.put (by simp[mC,h0.ids.2.2.1,hei,hki,hfc,nilPE]) rfl rfl (fun _=>rfl)
 refine zA ?_
 refine ACode.drawSt tabOk 14 13 [(10,.one (lookI tn l))] _ follows (by kernel_rfl) rfl rfl (by kernel_rfl) rfl ?_ rfl rfl rfl rfl ?_ ?_ (AStep.ofStore tabOk rfl) ?_
 ·rfl
 ·exact⟨⟨_,rfl,AStep.callE hΓ rfl rfl rfl rfl ⟨hei,trivial,trivial⟩ hou (Qmc hΓ hch tn _ hw.inO hei hvi)⟩,trivial⟩
 ·show Q0i _ _ _ (St.set ⟨0,[],ouX (mC (.box (cTr (.mk 0 tn tb tk ta))) ec vc kc m.out m.steps fu fc) m.out.length ou0⟩ (.o 0) (.cells (mC nilPE ec vc kc m.out m.steps fu fc))) _ _
  rw[setX]
  exact⟨⟨_,rfl,AStep.callE hΓ rfl rfl rfl rfl ⟨hei,trivial,trivial⟩ hw1.ok (Qmc hΓ hch tn _ hw1.inO hei hvi)⟩,trivial⟩
 refine zA ?_
 exact StQ.fin rfl rfl (.refl _ _) (MR.ofRt hw hv hk hei hfc rfl rfl (fun _=>rfl))
theorem Qki(hΓ:∀g cs,(g,cs)∈Γ->idsL isO cs)(h0:M0 fu fc ou H nm m (.box (cTr t)) ec vc kc)(he:ER H nm e ec)(hk:KR H nm m.k kc)(h1:¬(t.op=0∨t.op=1∨t.op=2∨t.op=17∨t.op=5)){x:Except Int Ms}
  (hkid:AFn Tryz.prog Γ 111 [.one (.ptr (.o 0) 0),.one (.box [.box (cTr t),ec,.sl 1 [],kc])] ou (StQ fu fc H nm x)):AFn Tryz.prog Γ 113 [.one (.ptr (.o 0) 0)] ou (StQ fu fc H nm x):=by
 have hei:=he.ids
 have hki:=hk.ids
 have hoX:=h0.ouX
 rw[hoX]at hkid ⊢
 generalize hmc:ou=ou0 at hkid
 clear hoX
 refine AFn.walk 149 tabOk Tryz.func113 rfl (by kernel_rfl) rfl rfl fun hou=>?_
 cases t with
 |mk to tn tb tk ta=>
 simp only[Tr.op]at h1
 have e0:to≠0:=fun e=>h1 (.inl e)
 have e1:to≠1:=fun e=>h1 (.inr (.inl e))
 have e2:to≠2:=fun e=>h1 (.inr (.inr (.inl e)))
 have e17:to≠17:=fun e=>h1 (.inr (.inr (.inr (.inl e))))
 have e5:to≠5:=fun e=>h1 (.inr (.inr (.inr (.inr e))))
 refine zA ?_
 refine ACode.cond rfl (fun hb=>absurd (by simpa using hb) e0) (fun _=>?_)
 refine zA ?_
 refine ACode.cond rfl (fun hb=>absurd (by simpa using hb) e1) (fun _=>?_)
 refine zA ?_
 refine ACode.cond rfl (fun hb=>absurd (by simpa using hb) e2) (fun _=>?_)
 refine zA ?_
 refine ACode.cond rfl (fun hb=>absurd (by simpa using hb) e17) (fun _=>?_)
 refine zA ?_
 refine ACode.cond rfl (fun hb=>absurd (by simpa using hb) e5) (fun _=>?_)
 refine zA ?_
 refine ACode.drawXH (va:=.one (.ptr (.l 0) 0)) (σ1:=St.push ⟨0,[],ouX (mC (.box (cTr (.mk to tn tb tk ta))) ec vc kc m.out m.steps fu fc) m.out.length ou0⟩ (.cells [.box (cTr (.mk to tn tb tk ta)),ec,.lit (.slice none 0 0),kc])) tabOk 12 11 [] follows (by kernel_rfl) rfl rfl rfl rfl rfl rfl rfl (HStep.auto tabOk rfl) trivial trivial ?_
 refine AOps.freeze1 (.l 0) 26 rfl rfl ?_
 refine AOps.wk 26 rfl (y:=.one (.box [.box (cTr (.mk to tn tb tk ta)),ec,.sl 1 [],kc])) (.one (Wk.box (.cons (.refl _) (.cons (.refl _) (.cons (.nilS 1) (.cons (.refl _) .nil)))))) ?_
 refine AOps.call1 hΓ rfl rfl rfl rfl rfl rfl rfl ⟨trivial,⟨by simp,hei,trivial,hki,trivial⟩,trivial⟩ hou hkid fun r ou' hq _ how=>?_
 obtain⟨rfl,H',nm',m',hx,hmo,hM⟩:=hq
 refine zA ?_
 exact StQ.fin rfl hx hmo hM
end
end Go.Proofs.YtpaonemmbhbgoaaGreatDoor
namespace Go.Abs
end Go.Abs
namespace Go.Proofs.YtpaonemmbhbgoaaGreatDoor
open Go Go.Abs Go.CoreX
variable {Γ:List (Nat×List AC)}
section
variable {t:Tr}{base top:AC}
end
section
variable {fu:Int}{fc:FcT}{fns:List Fun}{ou:Outer}{H:Hm}{nm:Nm2}{m:Ms}{ec vc kc:AC}{t:Tr}{e:En}
end
end Go.Proofs.YtpaonemmbhbgoaaGreatDoor
namespace Go.Abs
theorem CedFrN.gs{js:List Nat}{kk k j k' s:Nat}{es:List (List AC)}{fr r:Fr}(h:Fr.get k fr=some (.one (.gs s es (.l j))))(hes:idsS isO es)(hj:toOs js kk (.l j)=.o k')(hr:CedFrN (toOs js kk) fr r):CedFrN (toOs js kk) fr ((k,.one (.gs s es (.o k')))::r):=
 .cons h (by simp only[FV.sub,AC.sub];rw[hj,Qdk (fun i hi=>by cases i with|l q=>exact hi.elim|o q=>rfl) es hes]) hr
end Go.Abs
namespace Go.Proofs.YtpaonemmbhbgoaaGreatDoor
open Go Go.Abs Go.CoreX
variable {Γ:List (Nat×List AC)}
section
variable {fu:Int}{fc:FcT}{fns:List Fun}{ou:Outer}{H:Hm}{nm:Nm2}{m:Ms}{tc ec vc kc:AC}{t:Tr}{e:En}
def PlQ (fu:Int)(fc:FcT)(H:Hm)(nm:Nm2)(m1:Ms)(v:Vl)(tc ec vc kc:AC):FV->Outer->Prop:=fun r ou'=>∃kt H1 nm1 c,r=.one c/\Mo H nm H1 nm1/\VR H1 nm1 v c/\M0 fu ⟨fc.ac,kt⟩ ou' H1 nm1 m1 tc ec vc kc
end
end Go.Proofs.YtpaonemmbhbgoaaGreatDoor
