/- SameTree, Same, Order, SameList, walked: where they say yes. -/
import Derived.Test.YthboaankaaeemaaDoorE7
import Derived.Test.YthboaankaaeemaaDoorRows
import Derived.Lib.LaidTab
set_option maxRecDepth 10000
set_option linter.unusedVariables false
set_option linter.unusedSimpArgs false
namespace Go.Proofs.YthboaankaaeemaaDoor
open Go Go.Abs Go.CoreX
variable {Γ:List (Nat×List AC)}
theorem Qdk(hΓ:∀g cs,(g,cs)∈Γ->idsL isO cs)(hΓF:∀g cs,(g,cs)∈Γ->idsL (fun _=>False) cs)(a b:Tr)(ha:okT a)(hb:okT b)(hs:Q6k a b=true):
  APure Tryd.prog Γ 44 [.one (.box (cTr a)),.one (.box (cTr b))] (.one (.lit (.bool true))):=by
 intro ou
 refine AFn.walk 9 tabOk Tryd.func44 rfl (by kernel_rfl) rfl rfl fun hou=>?_
 refine zA ?_
 refine zS (AStep.makeMap rfl) ?_
 refine AOps.callR [.l 0] [.one (.box (cTr a)),.one (.box (cTr b)),.one (.mp (.o 0))] [.map 0 (encI eN [])] hΓF rfl rfl rfl rfl rfl rfl ?_ ?_ ?_ ?_ ?_ (Qg8 hΓ a ha b hb (fun _=>none) 0 [] IMOk.nil hs) ?_
 ·simp[subF,FV.sub,AC.sub,nameOf]
  exact⟨(Q1s _ _ (by simp)).symm,(Q1s _ _ (by simp)).symm⟩
 ·simp[inO]
 ·simp
 ·exact⟨rfl,trivial⟩
 ·simp[inO]
 intro r ou' hq
 obtain⟨rfl,ck',l',rfl,hm⟩:=hq
 refine⟨[.map ck' (encI eN l')],rfl,rfl,by simp[inO],by simp,?_⟩
 rw[show FV.sub (nameOf [.l 0]) (.one (.lit (.bool true)))=.one (.lit (.bool true))from rfl]
 refine zA ?_
 exact APure.fin rfl (WkF.ofEq rfl) (by simp) hou rfl
theorem Same_ok(e f:List Ex)(he:okB e)(hf:okB f)(hs:same e f=true):APure Tryd.prog Γc 24 [.one (.sl 5 (e.map cEx)),.one (.sl 5 (f.map cEx))] (.one (.lit (.bool true))):=by
 have hs':(check e=0/\check f=0)/\Q6k (grow e) (grow f)=true:=by simpa[same]using hs
 obtain⟨⟨h1,h2⟩,h3⟩:=hs'
 have t1:=Q12 h1
 have t2:=Q12 h2
 have c1:=Q3g e he
 have c2:=Q3g f hf
 rw[h1]at c1
 rw[h2]at c2
 intro ou
 refine AFn.walk 20 tabOk Tryd.func24 rfl (by kernel_rfl) rfl rfl fun hou=>?_
 refine zA ?_
 refine zca hΓc c1 hou ?_
 refine zM ?_
 refine zca hΓc c2 hou ?_
 refine zM ?_
 refine zca hΓc (Q8b hΓc e he.eo t1.k t1.ne) hou ?_
 refine zM ?_
 refine zca hΓc (Q8b hΓc f hf.eo t2.k t2.ne) hou ?_
 refine zM ?_
 refine zca hΓc (Qdk hΓc hΓcF (grow e) (grow f) (he.t t1.k t1.ne) (hf.t t2.k t2.ne) h3) hou ?_
 refine zM ?_
 exact APure.fin rfl (WkF.ofEq rfl) (by simp) hou rfl
theorem Qco(hΓ:∀g cs,(g,cs)∈Γ->idsL isO cs)(e:List Ex)(he:okE e):APure Tryd.prog Γ 39 [.one (.sl 5 (e.map cEx)),.one (.sl 5 (e.map cEx))] (.one (.lit (.bool true))):=by
 have hel:=he.l
 intro ou
 refine AFn.walk 136 tabOk Tryd.func39 rfl (by kernel_rfl) rfl rfl fun hou=>?_
 refine zA ?_
 refine ACode.cond rfl (fun hb=>absurd hb (by simp)) (fun hb=>?_)
 clear hb
 refine zA ?_
 refine ACode.loopR hΓ (α:=Nat) (fun j=>[(14,.one (int j)),(13,.one (int (e.map cEx).length)),(1,.one (.sl 5 (e.map cEx))),(0,.one (.sl 5 (e.map cEx)))])
  (fun j=>⟨0,[],ou⟩) (fun m j=>j<=e.length/\m=e.length - j) (a0:=0) (ρ:=id) ⟨by omega,rfl⟩ (LessR.of rfl zFS (by simp) zLO rfl rfl hou) fun m j hj=>?_
 obtain⟨hjl,rfl⟩:=hj
 refine zA ?_
 refine ACode.cond rfl (fun hb2=>?_) (fun hb2=>?_)
 ·have hlt:j < e.length:=by simpa using hb2
  obtain⟨x,hx⟩:=Q00 hlt
  have hxo:=he.x x (List.mem_of_getElem? hx)
  have hxa:=hxo.a
  have s1:=Q4x hΓ x.binds x.binds hxo.b
  have s2:=Q4x hΓ x.kids x.kids hxo.k
  rw[show (x.binds==x.binds)=true by simp]at s1
  rw[show (x.kids==x.kids)=true by simp]at s2
  refine zA ?_
  refine ACode.drawX tabOk 66 [(2,.one (.box (cEx x))),(7,.one (.box (cEx x))),(10,.one (.lit (.bool false))),(14,.one (.box (cEx x))),(19,.one (.box (cEx x))),(22,.one (.lit (.bool false))),(27,.one (.box (cEx x))),(32,.one (.box (cEx x))),(35,.one (.lit (.bool true))),(41,.one (.box (cEx x))),(46,.one (.box (cEx x))),(49,.one (.lit (.bool true))),(55,.one (.box (cEx x))),(61,.one (.box (cEx x))),(65,.one (.lit (.bool false)))] follows (by kernel_rfl) rfl rfl rfl rfl ?_ ?_
  ·have ix:=Q05 (f:=cEx) hx
   refine .step rfl (zHP (zIA rfl rfl rfl (by omega) ix)) ?_
   refine .step rfl (zHP (zIA rfl rfl rfl (by omega) ix)) ?_
   refine .step rfl (HStep.litB tabOk rfl (by simp)) ?_
   refine .step rfl (HStep.guarded rfl rfl rfl (zIA rfl rfl rfl (by omega) ix)) ?_
   refine .step rfl (HStep.guarded rfl rfl rfl (zIA rfl rfl rfl (by omega) ix)) ?_
   refine .step rfl (HStep.litB tabOk rfl (by simp)) ?_
   refine .step rfl (HStep.guarded rfl rfl rfl (zIA rfl rfl rfl (by omega) ix)) ?_
   refine .step rfl (HStep.guarded rfl rfl rfl (zIA rfl rfl rfl (by omega) ix)) ?_
   refine .step rfl (HStep.guarded rfl rfl rfl (AStep.callP hΓ rfl rfl rfl rfl (by simp) hou s1)) ?_
   refine .step rfl (HStep.guarded rfl rfl rfl (zIA rfl rfl rfl (by omega) ix)) ?_
   refine .step rfl (HStep.guarded rfl rfl rfl (zIA rfl rfl rfl (by omega) ix)) ?_
   refine .step rfl (HStep.guarded rfl rfl rfl (AStep.callP hΓ rfl rfl rfl rfl (by simp) hou s2)) ?_
   refine .step rfl (HStep.guarded rfl rfl rfl (zIA rfl rfl rfl (by omega) ix)) ?_
   refine .step rfl (HStep.guarded rfl rfl rfl (zIA rfl rfl rfl (by omega) ix)) ?_
   exact .step rfl (HStep.litB tabOk rfl (by simp)) .nil
  refine zA ?_
  refine zS (zIA rfl rfl rfl (by omega) (Q05 hx)) ?_
  refine zA ?_
  refine ACode.loopR hΓ (α:=Nat) (fun i=>[(90,.one (int i)),(89,.one (int (x.alts.map cAlt).length)),(5,.one (int j)),(14,.one (int j)),(13,.one (int (e.map cEx).length)),(1,.one (.sl 5 (e.map cEx))),(0,.one (.sl 5 (e.map cEx)))])
   (fun i => ⟨0, [], ou⟩) (fun m i => i <= x.alts.length /\ m = x.alts.length - i) (a0 := 0) (ρ := id) ⟨by omega, rfl⟩ (LessR.of rfl zFS (by simp) zLO rfl rfl hou) fun m i hi => ?_
  obtain⟨hil,rfl⟩:=hi
  refine zA ?_
  refine ACode.cond rfl (fun hb3=>?_) (fun hb3=>?_)
  ·have hlt2:i < x.alts.length:=by simpa using hb3
   obtain⟨a,ha⟩:=Q00 hlt2
   have s3:=Q4x hΓ a.binds a.binds (hxo.ab a (List.mem_of_getElem? ha))
   rw[show (a.binds==a.binds)=true by simp]at s3
   refine zA ?_
   refine ACode.drawX tabOk 40 [(2,.one (.box (cEx x))),(6,.one (.box (cAlt a))),(11,.one (.box (cEx x))),(15,.one (.box (cAlt a))),(18,.one (.lit (.bool false))),(22,.one (.box (cEx x))),(26,.one (.box (cAlt a))),(31,.one (.box (cEx x))),(35,.one (.box (cAlt a))),(38,.one (.lit (.bool true)))] follows (by kernel_rfl) rfl rfl rfl rfl ?_ ?_
   ·have ix:=Q05 (f:=cEx) hx
    have ia:=Q05 (f:=cAlt) ha
    refine .step rfl (zHP (zIA rfl rfl rfl (by omega) ix)) ?_
    refine .step rfl (zHP (zIA rfl rfl rfl (by omega) ia)) ?_
    refine .step rfl (zHP (zIA rfl rfl rfl (by omega) ix)) ?_
    refine .step rfl (zHP (zIA rfl rfl rfl (by omega) ia)) ?_
    refine .step rfl (HStep.litB tabOk rfl (by simp)) ?_
    refine .step rfl (HStep.guarded rfl rfl rfl (zIA rfl rfl rfl (by omega) ix)) ?_
    refine .step rfl (HStep.guarded rfl rfl rfl (zIA rfl rfl rfl (by omega) ia)) ?_
    refine .step rfl (HStep.guarded rfl rfl rfl (zIA rfl rfl rfl (by omega) ix)) ?_
    refine .step rfl (HStep.guarded rfl rfl rfl (zIA rfl rfl rfl (by omega) ia)) ?_
    exact .step rfl (HStep.guarded rfl rfl rfl (AStep.callP hΓ rfl rfl rfl rfl (by simp) hou s3)) .nil
   refine zM ?_
   exact cInv ⟨x.alts.length - (i+1),i+1,id,by omega,⟨by omega,rfl⟩,LessR.of rfl zFS (by simp) zLO rfl rfl hou⟩
  ·have hlt2:i=x.alts.length:=by simp at hb3;omega
   subst hlt2
   refine zM ?_
   exact cInv ⟨e.length - (j+1),j+1,id,by omega,⟨by omega,rfl⟩,LessR.of rfl zFS (by simp) zLO rfl rfl hou⟩
 ·have hlt:j=e.length:=by simp at hb2;omega
  subst hlt
  refine zA ?_
  exact APure.fin rfl (WkF.ofEq rfl) (by simp) hou rfl
end Go.Proofs.YthboaankaaeemaaDoor
namespace Go.Abs
theorem AStep.wk{E:Env}{o:Oper}{fr:Fr}{σ σ':St}{x y:FV}(h:AStep E o fr σ x σ')(hw:WkF x y):AStep E o fr σ y σ':=
 fun F w C tmps hi hf next Q hk=>h F w C tmps hi hf next Q fun u w' C' a b c=>hk u w' C' a b (hw _ _ _ c)
end Go.Abs
namespace Go.Proofs.YthboaankaaeemaaDoor
open Go Go.Abs Go.CoreX
variable {Γ:List (Nat×List AC)}
mutual
def encNd:Tr->List AC
 |.mk o n b k a=>[int o,int n,.sl 1 (b.map cI),.any,.sl 2 (a.map cAlt),.sl 1 (Q2p k)]
def Q2p:List Tr->List (List AC)
 |[]=>[]
 |t::ts=>[.box (encNd t)]::Q2p ts
end
def cNd (t:Tr):List AC:=[int t.op,int t.n,.sl 1 (t.binds.map cI),.any,.sl 2 (t.alts.map cAlt),.sl 1 (Q2p t.kids)]
theorem Qjb(t:Tr):encNd t=cNd t:=by cases t;simp[encNd,cNd]
theorem Q80:∀l:List Tr,Q2p l=l.map fun t=>[.box (cNd t)]
 |[]=>rfl
 |t::ts=>by simp[Q2p,Q80 ts,Qjb]
theorem Qfn{l:List Tr}{i:Nat}{t:Tr}(h:l[i]?=some t):(Q2p l)[i]?=some [.box (cNd t)]:=by rw[Q80];simp[h]
mutual
theorem Qh6(p:Abs.Id->Prop):∀t:Tr,idsL p (encNd t)
 |.mk o n b k a=>by simp[encNd,Q5w p k]
theorem Q5w(p:Abs.Id->Prop):∀l:List Tr,idsS p (Q2p l)
 |[]=>by simp[Q2p]
 |t::ts=>by simp[Q2p,Qh6 p t,Q5w p ts]
end
attribute [simp] Q5w
@[simp] theorem ids_cNd (p:Abs.Id->Prop) (t:Tr):idsL p (cNd t):=by simp[cNd]
@[simp] theorem len_encNds (l:List Tr):(Q2p l).length=l.length:=by rw[Q80];simp
theorem N_ok(op n:Int)(ks:List Tr):APure Tryd.prog Γ 29 [.one (int op),.one (int n),.one (.sl 1 (Q2p ks))] (.one (.box (cNd (.mk op n [] ks [])))):=by
 intro ou
 refine AFn.walk 13 tabOk Tryd.func29 rfl (by kernel_rfl) rfl rfl fun hou=>?_
 iterate 14 (first|((with_reducible refine oj ?_);refine zau ?_)|(with_reducible refine zst ?_)|((with_reducible refine Q0i ?_ ?_);rfl)|(with_reducible refine ok ?_;first|refine ACode.condT rfl ?_|refine ACode.condF rfl ?_))
 refine AOps.freeze1 (.l 0) 6 rfl rfl ?_
 refine zA ?_
 refine APure.fin rfl (.one (Wk.box ?_)) (by simp) hou rfl
 exact .cons (.refl _) (.cons (.refl _) (.cons (.nilS 1) (.cons (.any _) (.cons (.nilS 2) (.cons (.refl _) .nil)))))
theorem B_ok(op:Int)(b:List Int)(ks:List Tr):APure Tryd.prog Γ 30 [.one (int op),.one (.sl 1 (b.map cI)),.one (.sl 1 (Q2p ks))] (.one (.box (cNd (.mk op 0 b ks [])))):=by
 intro ou
 refine AFn.walk 13 tabOk Tryd.func30 rfl (by kernel_rfl) rfl rfl fun hou=>?_
 iterate 14 (first|((with_reducible refine oj ?_);refine zau ?_)|(with_reducible refine zst ?_)|((with_reducible refine Q0i ?_ ?_);rfl)|(with_reducible refine ok ?_;first|refine ACode.condT rfl ?_|refine ACode.condF rfl ?_))
 refine AOps.freeze1 (.l 0) 6 rfl rfl ?_
 refine zA ?_
 refine APure.fin rfl (.one (Wk.box ?_)) (by simp) hou rfl
 exact .cons (.refl _) (.cons (.refl _) (.cons (.refl _) (.cons (.any _) (.cons (.nilS 2) (.cons (.refl _) .nil)))))
theorem V_ok(hΓ:∀g cs,(g,cs)∈Γ->idsL isO cs)(n:Int):APure Tryd.prog Γ 38 [.one (int n)] (.one (.box (cNd (.mk 0 n [] [] [])))):=by
 intro ou
 refine AFn.walk 5 tabOk Tryd.func38 rfl (by kernel_rfl) rfl rfl fun hou=>?_
 refine zA ?_
 refine AOps.callCW (ws:=[.one (int 0),.one (int n),.one (.sl 1 (Q2p []))]) hΓ (N_ok 0 n []) rfl rfl rfl rfl rfl rfl ?_ hou (by simp) ?_
 ·exact .cons (.refl _) (.cons (.refl _) (.cons (.one (.nilS 1)) .nil))
 refine zA ?_
 exact APure.fin rfl (WkF.ofEq rfl) (by simp) hou rfl
def IntoOk (Γ:List (Nat×List AC))(t:Tr):Prop:=∀(ou:Outer)(ko kt:Nat)(out:List Ex),OuOk ou->ou ko=none->ou kt=none->ko≠kt->(listT out t).length<=1048576->
 AFn Tryd.prog Γ 40 [.one (.box (cNd t)),.one (.ptr (.o ko) 0)] (ouS ou ko kt (out.map cEx)) (fun r ou'=>r=.one (int (((listT out t).length:Int) - 1))/\∃kt',ou kt'=none/\ko≠kt'/\ou'=ouS ou ko kt' ((listT out t).map cEx))
set_option maxHeartbeats 1000000 in
theorem Qgz(hΓ:∀g cs,(g,cs)∈Γ->idsL isO cs):∀t:Tr,okT t->IntoOk Γ t
 |.mk o n b ks a,hok=>by
  obtain⟨hb,hk,ha,⟨hab,_⟩,hks⟩:=hok
  have ih:∀t∈ks,IntoOk Γ t:=fun t ht=>Qgz hΓ t (Q1l.1 hks t ht)
  intro ou ko kt out hou0 ho ht hne hsz
  have hsz2:(Q01 out ks).1.length < 1048576:=by simp only[listT,List.length_append,List.length_singleton]at hsz;omega
  refine AFn.walk 44 tabOk Tryd.func40 rfl (by kernel_rfl) rfl rfl fun hou=>?_
  refine zA ?_
  refine ACode.grow 0 3 3 1 rfl rfl ?_
  refine ACode.loopR hΓ (α:=Nat×Nat) (fun c=>[(18,.one (int c.1)),(17,.one (int (Q2p ks).length)),(16,.one (.sl 1 (Q2p ks))),(5,.one (.ptr (.l 0) 0)),(1,.one (.ptr (.o ko) 0))])
   (fun c=>⟨2,[(1,.tok 3 1 c.1),(0,.cells [int o,int n,.sl 1 (b.map cI),.gs 1 ((Q01 out (ks.take c.1)).2.map cI) (.l 1),.sl 2 (a.map cAlt)])],ouS ou ko c.2 ((Q01 out (ks.take c.1)).1.map cEx)⟩)
   (fun m c=>c.1<=ks.length/\(ou c.2=none/\ko≠c.2)/\m=ks.length - c.1) (a0:=(0,kt)) (ρ:=id) ⟨by omega,⟨ht,hne⟩,rfl⟩ (LessR.of rfl zFS (by simp) ?_ rfl (by simp[Q01];rfl) hou) fun m c hi=>?_
  ·repeat' first|exact LoSub.nil|refine zlc ?_|refine zld ?_ ?_|rfl
   all_goals (simp[AObj.ren,renL,AC.ren,Q01];rfl)
  obtain⟨i,kt⟩:=c
  obtain⟨hil,⟨ht,hne⟩,rfl⟩:=hi
  simp only at hil ht hne
  have hle:(Q01 out (ks.take i)).1.length<=(Q01 out ks).1.length:=by
   have:=Q2f (ks.take i) (ks.drop i) out
   rw[List.take_append_drop]at this
   rw[this];exact Q2n _ _
  refine zA ?_
  refine ACode.cond rfl (fun hb3=>?_) (fun hb3=>?_)
  ·have hlt2:i < ks.length:=by simpa using hb3
   obtain⟨t,ht2⟩:=Q00 hlt2
   have hsn:=Q3v t (ks.take i) out
   rw[←Q0j ht2]at hsn
   have hle2:(listT (Q01 out (ks.take i)).1 t).length<=1048576:=by
    have:=Q2f (ks.take (i+1)) (ks.drop (i+1)) out
    rw[List.take_append_drop]at this
    have h2:=Q2n (ks.drop (i+1)) (Q01 out (ks.take (i+1))).1
    rw[←this,hsn]at h2
    simp only at h2
    omega
   have hcall:=ih t (List.mem_of_getElem? ht2) ou ko kt (Q01 out (ks.take i)).1 hou0 ho ht hne hle2
   have hil2:((Q01 out (ks.take i)).2.map cI).length=i:=by rw[List.length_map,Q2t];simp;omega
   refine zA ?_
   refine zS (zIA rfl rfl rfl (by omega) (Qfn ht2)) ?_
   refine zA ?_
   refine ACode.drawXR (va:=.one (int (((listT (Q01 out (ks.take i)).1 t).length:Int) - 1))) tabOk 6 4 []
    (fun σ=>∃kt',ou kt'=none/\ko≠kt'/\σ=⟨2,[(1,.tok 3 1 i),(0,.cells [int o,int n,.sl 1 (b.map cI),.gs 1 ((Q01 out (ks.take i)).2.map cI) (.l 1),.sl 2 (a.map cAlt)])],ouS ou ko kt' ((listT (Q01 out (ks.take i)).1 t).map cEx)⟩)
    follows (by kernel_rfl) rfl rfl rfl rfl rfl ?_ rfl ⟨rfl,rfl⟩ rfl ?_ .nil ?_ ?_
   ·rintro σ ⟨kt',h1,h2,rfl⟩;rfl
   ·refine Q2q.call hΓ rfl rfl rfl rfl (by simp) (Q2o hou0 (by simp)) hcall fun r ou' hq _ _=>?_
    obtain⟨rfl,kt',h1,h2,rfl⟩:=hq
    exact⟨rfl,kt',h1,h2,rfl⟩
   ·intro σ _;exact .nil
   rintro σ ⟨kt',h1,h2,rfl⟩
   refine zA ?_
   refine AOps.app tabOk rfl rfl rfl rfl rfl rfl rfl rfl rfl (Base.gs' _ _ _ _ _ (by rfl) hil2.symm) (.sl _ _) rfl ?_ ?_ ?_
   ·rw[hil2];show (i+1) * 8<=_;omega
   ·rw[hil2];show i+1<=_;omega
   refine zM ?_
   refine cInv ⟨ks.length - (i+1),(i+1,kt'),fun k=>if k=1 then 2 else k,by omega,⟨by omega,⟨h1,h2⟩,rfl⟩,LessR.of rfl zFS (by simp) ?_ rfl (by simp only[hsn];rfl) (Q2o hou0 (by simp))⟩
   repeat' first|exact LoSub.nil|refine zlc ?_|refine zld ?_ ?_|rfl
   ·simp only[AObj.ren,List.length_append,hil2];rfl
   ·simp only[hsn];simp only[AObj.ren,renL,AC.ren,Q3i,Q3n];rw[List.map_append];rfl
  have hlt2:i=ks.length:=by simp at hb3;omega
  subst hlt2
  rw[List.take_length]at *
  refine zA ?_
  have hT:listT out (.mk o n b ks a)=(Q01 out ks).1++[⟨o,n,b,(Q01 out ks).2,a⟩]:=by simp only[listT]
  have hmap:(Q01 out ks).1.map cEx++[cEx ⟨o,n,b,(Q01 out ks).2,a⟩]=(listT out (.mk o n b ks a)).map cEx:=by rw[hT,List.map_append];rfl
  have hw:WkF (.agg [int o,int n,.sl 1 (b.map cI),.gs 1 ((Q01 out ks).2.map cI) (.l 1),.sl 2 (a.map cAlt)]) (.agg (cEx ⟨o,n,b,(Q01 out ks).2,a⟩)):=WkF.agg (.cons (.refl _) (.cons (.refl _) (.cons (.refl _) (.cons (.gsE rfl) (.cons (.refl _) .nil)))))
  have hko:(bif Nat.beq ko kt then some AObj.dead else ouS ou ko kt ((Q01 out ks).1.map cEx) ko)=some (.cells [.gs 5 ((Q01 out ks).1.map cEx) (.o kt)]):=by rw[Q09 hne];exact ouS_o hne _
  refine ACode.drawXH (va:=.one (.gs 5 ((Q01 out ks).1.map cEx++[cEx ⟨o,n,b,(Q01 out ks).2,a⟩]) (.l 2))) (σ1:=(St.set ⟨2,[(1,.tok 3 1 ks.length),(0,.cells [int o,int n,.sl 1 (b.map cI),.gs 1 ((Q01 out ks).2.map cI) (.l 1),.sl 2 (a.map cAlt)])],ouS ou ko kt ((Q01 out ks).1.map cEx)⟩ (.o kt) .dead).push (.tok 69 5 ((Q01 out ks).1.map cEx++[cEx ⟨o,n,b,(Q01 out ks).2,a⟩]).length))
   tabOk 7 6 [(3,.one (.gs 5 ((Q01 out ks).1.map cEx) (.o kt))),(4,.agg (cEx ⟨o,n,b,(Q01 out ks).2,a⟩))] follows (by kernel_rfl) rfl rfl rfl rfl rfl rfl rfl ?_ ?_ ?_ ?_
  ·refine HStep.plain rfl (AStep.append (s:=5) (es:=(Q01 out ks).1.map cEx) (news:=[cEx ⟨o,n,b,(Q01 out ks).2,a⟩]) (ti:=ti22) (σ:=⟨2,[(1,.tok 3 1 ks.length),(0,.cells [int o,int n,.sl 1 (b.map cI),.gs 1 ((Q01 out ks).2.map cI) (.l 1),.sl 2 (a.map cAlt)])],ouS ou ko kt ((Q01 out ks).1.map cEx)⟩) tabOk rfl rfl rfl rfl rfl rfl (Base.gs' _ 69 5 _ (.o kt) (ouS_t ou ko kt _) rfl) (.sl _ _) rfl ?_ ?_)
   ·simp;show (_+1) * 88<=_;omega
   ·simp;omega
  ·refine .step rfl (zHP (zLD rfl rfl (ouS_o hne _) rfl)) ?_
   exact .step rfl (zHP (AStep.wk (AStep.ofOp tabOk rfl) hw)) .nil
  ·refine .step rfl (zHP (zLD rfl rfl hko rfl)) ?_
   exact .step rfl (zHP (AStep.wk (AStep.ofOp tabOk rfl) hw)) .nil
  rw[hmap]
  refine zA ?_
  refine AOps.storeOwn (cs:=[.gs 5 ((Q01 out ks).1.map cEx) (.o kt)]) tabOk rfl rfl rfl rfl rfl rfl rfl hko (by simp) ?_
  refine AOps.cede 2 (show 2 < 3 by omega) fun k hk=>⟨[(1,.one (.ptr (.o ko) 0))],⟨3,[],ouS ou ko k ((listT out (.mk o n b ks a)).map cEx)⟩,⟨fun d x hd=>?_,rfl,fun i x hx=>?_⟩,?_⟩
  ·by_cases e:1=d
   ·subst e
    simp[Fr.get]at hd;subst hd
    exact⟨_,rfl,WkF.ofEq rfl⟩
   ·simp[Fr.get,Q09 e]at hd
  ·have hk':(bif Nat.beq k ko then some (AObj.cells [.gs 5 ((listT out (.mk o n b ks a)).map cEx) (.l 2)])else bif Nat.beq k kt then some AObj.dead else ouS ou ko kt ((Q01 out ks).1.map cEx) k)=none:=hk
   have k1:k≠ko:=fun e=>by subst e;simp at hk'
   rw[Q09 k1]at hk'
   have k2:k≠kt:=fun e=>by subst e;simp at hk'
   rw[Q09 k2]at hk'
   simp only[cond_false,ouS_w k1 k2]at hk'
   cases i with
   |l m=>cases hx
   |o m=>
    have hx':ouS ou ko k ((listT out (.mk o n b ks a)).map cEx) m=some x:=hx
    by_cases e:m=k
    ·subst e
     rw[ouS_t]at hx';cases hx'
     exact⟨.l 2,_,rfl,rfl,rfl⟩
    ·by_cases e2:m=ko
     ·subst e2
      rw[ouS_o e]at hx';cases hx'
      refine⟨.o m,.cells [.gs 5 ((listT out (.mk o n b ks a)).map cEx) (.l 2)],?_,rfl,?_⟩
      ·show (bif Nat.beq m m then _ else _)=_;rw[Q3f];rfl
      ·simp only[AObj.sub,subL,AC.sub];rw[Q8l _ (by simp)];rfl
     ·rw[ouS_w e2 e]at hx'
      have e3:m≠kt:=fun e=>by rw[e,ht]at hx';cases hx'
      refine⟨.o m,x,?_,rfl,(AObj.sub_o x (hou0 m x hx')).symm⟩
      show (bif Nat.beq m ko then _ else bif Nat.beq m kt then _ else ouS ou ko kt _ m)=_
      rw[Q09 e2,Q09 e3]
      exact (ouS_w e2 e3 _).trans hx'
  ·have hk':(bif Nat.beq k ko then some (AObj.cells [.gs 5 ((listT out (.mk o n b ks a)).map cEx) (.l 2)])else bif Nat.beq k kt then some AObj.dead else ouS ou ko kt ((Q01 out ks).1.map cEx) k)=none:=hk
   have k1:k≠ko:=fun e=>by subst e;simp at hk'
   rw[Q09 k1]at hk'
   have k2:k≠kt:=fun e=>by subst e;simp at hk'
   rw[Q09 k2]at hk'
   simp only[cond_false,ouS_w k1 k2]at hk'
   refine zA ?_
   refine zS (zLD rfl rfl (ouS_o (Ne.symm k1) _) rfl) ?_
   refine zM ?_
   refine AFn.fin' rfl (WkF.ofEq ?_) (by simp) (Q2o hou0 (by simp)) ⟨rfl,k,hk',Ne.symm k1,rfl⟩
   simp
theorem Q2j(hΓ:∀g cs,(g,cs)∈Γ->idsL isO cs)(t:Tr)(ht:okT t)(hsz:(listT [] t).length<=1048576):APure Tryd.prog Γ 16 [.one (.box (cNd t))] (.one (.sl 5 ((listT [] t).map cEx))):=by
 intro ou
 refine AFn.walk 7 tabOk Tryd.func16 rfl (by kernel_rfl) rfl rfl fun hou=>?_
 iterate 11 (first|((with_reducible refine oj ?_);refine zau ?_)|(with_reducible refine zst ?_)|((with_reducible refine Q0i ?_ ?_);rfl)|(with_reducible refine ok ?_;first|refine ACode.condT rfl ?_|refine ACode.condF rfl ?_))
 refine ACode.grow 0 0 69 5 rfl rfl ?_
 refine zA ?_
 refine AOps.cede 0 (show 0 < 2 by omega) fun ko hko=>⟨[(4,.one (.box (cNd t))),(3,.one (.ptr (.o ko) 0))],
  ⟨2, [(1, .tok 69 5 0)], updO ou ko (.cells [.gs 5 [] (.l 1)])⟩, ⟨CedFr.get ?_, rfl, fun i x hx => ?_⟩, ?_⟩
 ·exact .cons rfl (FV.sub_o _ (by simp)) (.cons rfl rfl .nil)
 ·have hko:ou ko=none:=hko
  cases i with
  |l m=>
   by_cases e:1=m
   ·subst e;cases hx;exact⟨.l 1,_,rfl,rfl,rfl⟩
   ·simp[St.get,lookL,Q09 e]at hx
  |o m=>
   have hx':updO ou ko (.cells [.gs 5 [] (.l 1)]) m=some x:=hx
   by_cases e:ko=m
   ·subst e;rw[Q06]at hx';cases hx';exact⟨.l 0,_,rfl,rfl,rfl⟩
   ·rw[Q0a _ e]at hx'
    exact⟨.o m,x,hx',rfl,(AObj.sub_o x (hou m x hx')).symm⟩
 have hko:ou ko=none:=hko
 refine AOps.cede 1 (show 1 < 2 by omega) fun kt hkt=>⟨[(4,.one (.box (cNd t))),(3,.one (.ptr (.o ko) 0))],
  ⟨2, [], ouS ou ko kt (([] : List Ex).map cEx)⟩, ⟨CedFr.get ?_, rfl, fun i x hx => ?_⟩, ?_⟩
 ·exact .cons rfl (FV.sub_o _ (by simp)) (.cons rfl rfl .nil)
 ·have hkt:updO ou ko (.cells [.gs 5 [] (.l 1)]) kt=none:=hkt
  have hkto:ko≠kt:=fun e=>by subst e;rw[Q06]at hkt;cases hkt
  cases i with
  |l m=>cases hx
  |o m=>
   have hx':ouS ou ko kt (([]:List Ex).map cEx) m=some x:=hx
   by_cases e:m=kt
   ·subst e;rw[ouS_t]at hx';cases hx';exact⟨.l 1,_,rfl,rfl,rfl⟩
   ·by_cases e2:m=ko
    ·subst e2;rw[ouS_o hkto]at hx';cases hx'
     exact⟨.o m,.cells [.gs 5 [] (.l 1)],Q06 _ _ _,rfl,rfl⟩
    ·rw[ouS_w e2 e]at hx'
     refine⟨.o m,x,?_,rfl,(AObj.sub_o x (hou m x hx')).symm⟩
     show updO ou ko (.cells [.gs 5 [] (.l 1)]) m=_
     rw[Q0a _ (Ne.symm e2)];exact hx'
 have hkt:updO ou ko (.cells [.gs 5 [] (.l 1)]) kt=none:=hkt
 have hot:ko≠kt:=fun e=>by subst e;rw[Q06]at hkt;cases hkt
 rw[Q0a _ hot]at hkt
 have hcall:=Qgz hΓ t ht ou ko kt [] hou hko hkt hot hsz
 refine AOps.call1 hΓ rfl rfl rfl rfl rfl rfl rfl (by simp) (Q2o hou (by simp)) hcall fun r ou' hq hids hou'=>?_
 obtain⟨rfl,kt',h1,h2,rfl⟩:=hq
 refine zA ?_
 refine zS (zLD rfl rfl (ouS_o h2 _) rfl) ?_
 refine AOps.wk 6 rfl (y:=.one (.sl 5 ((listT [] t).map cEx))) (.one (.gsE rfl)) ?_
 refine AOps.lessO ⟨2,[],ou⟩ rfl (fun i o ho=>?_) ?_
 ·cases i with
  |l m=>cases ho
  |o m=>
   have ho':ou m=some o:=ho
   show ouS ou ko kt' _ m=some o
   have e1:m≠ko:=fun e=>by rw[e,hko]at ho';cases ho'
   have e3:m≠kt':=fun e=>by rw[←e,ho']at h1;cases h1
   rw[ouS_w e1 e3];exact ho'
 refine zA ?_
 exact APure.fin rfl (WkF.ofEq rfl) (by simp) hou rfl
end Go.Proofs.YthboaankaaeemaaDoor
namespace Go.CoreX
def Q0t (e:List Ex)(k:Nat):Tr:=(growL e).getD k default
theorem Q2z{e:List Ex}(hk:Q0h e){i:Nat}{x:Ex}(hx:e[i]?=some x):Q0t e i=.mk x.op x.n x.binds (x.kids.map fun k=>Q0t e k.toNat) x.alts:=by
 have hi:=(List.getElem?_eq_some_iff.1 hx).1
 have hs:e=e.take i++x::e.drop (i+1):=by
  obtain⟨h2,h3⟩:=List.getElem?_eq_some_iff.1 hx
  rw[←h3,←List.drop_eq_getElem_cons h2,List.take_append_drop]
 have hl:(e.take i).length=i:=by simp;omega
 have h1:=Q6s (e.take i) (e.drop (i+1)) x
 rw[←hs,hl]at h1
 unfold Q0t
 rw[h1]
 simp only[Q2c,Tr.mk.injEq,true_and,and_true]
 refine List.map_congr_left fun k hkk=>?_
 have hb:=hk i x hx k hkk
 have h2:=Q3p (e:=e.take i) (l:=x::e.drop (i+1)) (i:=k.toNat) (by rw[hl];omega)
 rw[←hs]at h2
 exact h2.symm
theorem Qhj:∀{e:List Ex}{k:Nat},0 < cnt e k->∃(i:Nat)(x:Ex),e[i]?=some x/\(k:Int)∈x.kids
 |[],k,h=>by simp[cnt]at h
 |x::e,k,h=>by
  simp only[cnt]at h
  by_cases h1:0 < x.kids.count (k:Int)
  ·exact⟨0,x,rfl,List.count_pos_iff.1 h1⟩
  ·obtain⟨i,y,h2,h3⟩:=Qhj (e:=e) (k:=k) (by omega)
   exact⟨i+1,y,by simpa using h2,h3⟩
theorem Qfz{e:List Ex}(h:IsTree e){P:Tr->Prop}(h0:P (grow e))(h1:∀(t s:Tr),P t->s∈t.kids->P s):∀k,k < e.length->P (Q0t e k):=by
 have key:∀d k,k < e.length->e.length - k=d->P (Q0t e k):=by
  intro d
  induction d using Nat.strongRecOn with
  |_ d ih=>
   intro k hk hd
   by_cases hl:k+1 < e.length
   ·have hc:=(h.c k hk).2 hl
    obtain⟨i,x,hx,hkx⟩:=Qhj (e:=e) (k:=k) (by omega)
    have hb:=h.k i x hx _ hkx
    have hi:=(List.getElem?_eq_some_iff.1 hx).1
    have hp:=ih (e.length - i) (by omega) i hi rfl
    rw[Q2z h.k hx]at hp
    refine h1 _ _ hp ?_
    simp only[Tr.kids_mk,List.mem_map]
    exact⟨_,hkx,by simp⟩
   ·have:k=e.length - 1:=by omega
    subst this
    exact h0
 exact fun k hk=>key _ k hk rfl
mutual
theorem Q4p(g:Lab->Int)(hg:∀l,0<=g l):∀t:Tr,0<=sumT g t
 |.mk o m b k a=>by
  simp only[sumT]
  have h1:=hg ⟨o,m,b,k.map Tr.op,a⟩
  have h2:=Q65 g hg k
  omega
theorem Q65(g:Lab->Int)(hg:∀l,0<=g l):∀l:List Tr,0<=sumTs g l
 |[]=>by simp[sumTs]
 |t::l=>by
  simp only[sumTs]
  have h1:=Q4p g hg t
  have h2:=Q65 g hg l
  omega
end
theorem Qib(g:Lab->Int)(hg:∀l,0<=g l){t s:Tr}(h:s∈t.kids):sumT g s<=sumT g t:=by
 cases t with
 |mk o m b k a=>
  simp only[Tr.kids_mk]at h
  simp only[sumT,Q6j]
  have h1:=hg ⟨o,m,b,k.map Tr.op,a⟩
  have:sumT g s<=(k.map (sumT g)).sum:=by
   clear h1
   induction k with
   |nil=>cases h
   |cons r k ih=>
    simp only[List.map_cons,List.sum_cons]
    have hr:=Q4p g hg r
    have hk:0<=(k.map (sumT g)).sum:=by
     clear ih h
     induction k with
     |nil=>simp
     |cons q k ihk=>
      simp only[List.map_cons,List.sum_cons]
      have:=Q4p g hg q
      omega
    rcases List.mem_cons.1 h with rfl|h
    ·omega
    ·have:=ih h;omega
  omega
theorem Q9m{t s:Tr}(h:s∈t.kids):Q0w s<=Q0w t:=by
 cases t with
 |mk o m b k a=>
  simp only[Tr.kids_mk]at h
  have:=Qce (o:=o) (n:=m) (b:=b) (a:=a) h
  omega
theorem Qab{t s:Tr}(ht:okT t)(h:s∈t.kids):okT s:=by
 cases t with
 |mk o m b k a=>exact Q1l.1 ht.2.2.2.2 s h
theorem Qdr(g:Lab->Int)(hg:∀l,0<=g l){e:List Ex}(h:IsTree e){k:Nat}(hk:k < e.length):((labs (listT [] (Q0t e k))).map g).sum<=((labs e).map g).sum:=by
 have h1:=Q38 g (Q16 (Q0t e k))
 rw[Q0c]at h1
 rw[h1,Q38 g h]
 exact Qfz h (P:=fun t=>sumT g t<=sumT g (grow e)) (Int.le_refl _) (fun t s ht hs=>Int.le_trans (Qib g hg hs) ht) k hk
theorem labs_sub{e:List Ex}(h:IsTree e){k:Nat}(hk:k < e.length)(l:Lab)(hl:l∈labs (listT [] (Q0t e k))):l∈labs e:=by
 have h1:=Qdr (fun l'=>if l'=l then (1:Int)else 0) (fun l'=>by split <;> omega) h hk
 rw[Q71,Q71]at h1
 have h2:=List.count_pos_iff.2 hl
 exact List.count_pos_iff.1 (by omega)
theorem Qa0:∀ls:List Lab,(ls.map fun _=>(1:Int)).sum=ls.length
 |[]=>rfl
 |l::ls=>by simp only[List.map_cons,List.sum_cons,Qa0 ls,List.length_cons];omega
theorem len_sub{e:List Ex}(h:IsTree e){k:Nat}(hk:k < e.length):(listT [] (Q0t e k)).length<=e.length:=by
 have h1:=Qdr (fun _=>(1:Int)) (fun _=>by omega) h hk
 rw[Qa0,Qa0,Q4j,Q4j]at h1
 omega
theorem Q63(n:Int)(f:Lab->List Int):∀ls:List Lab,(((ls.flatMap f).count n:Nat):Int)=(ls.map fun l=>(((f l).count n:Nat):Int)).sum
 |[]=>rfl
 |l::ls=>by
  simp only[List.flatMap_cons,List.count_append,List.map_cons,List.sum_cons,←Q63 n f ls]
  omega
def atErr (e:List Ex)(n:Int):Int:=if check e≠0 then check e else if n < 0∨(e.length:Int)<=n then 12 else 0
def cutAt (e:List Ex)(n:Int):List Ex×Int:=if atErr e n≠0 then ([],atErr e n)else (listT [] (Q0t e n.toNat),0)
theorem Qfs{e:List Ex}{n:Int}(h:atErr e n=0):check e=0/\0<=n/\n.toNat < e.length:=by
 unfold atErr at h
 by_cases h1:check e=0
 ·rw[if_neg (by simpa using h1)]at h
  by_cases h2:n < 0∨(e.length:Int)<=n
  ·rw[if_pos h2]at h;cases h
  ·exact⟨h1,by omega,by omega⟩
 ·rw[if_pos h1]at h;exact absurd h h1
end Go.CoreX
namespace Go.Proofs.YthboaankaaeemaaDoor
open Go Go.Abs Go.CoreX
variable {Γ:List (Nat×List AC)}
theorem at_ok(e:List Ex)(he:okB e)(n:Int):APure Tryd.prog Γc 45 [.one (.sl 5 (e.map cEx)),.one (int n)] (.one (int (atErr e n))):=by
 intro ou
 refine AFn.walk 19 tabOk Tryd.func45 rfl (by kernel_rfl) rfl rfl fun hou=>?_
 refine zA ?_
 refine zca hΓc (Q3g e he) hou ?_
 refine zA ?_
 refine ACode.cond rfl (fun hb=>?_) (fun hb=>?_)
 ·have h:check e≠0:=by simpa using hb
  refine zA ?_
  refine APure.fin rfl (WkF.ofEq ?_) (by simp) hou rfl
  unfold atErr;rw[if_pos h]
 have h:check e=0:=by simpa using hb
 have hn:atErr e n=if n < 0∨(e.length:Int)<=n then 12 else 0:=by unfold atErr;rw[if_neg (by simpa using h)]
 clear hb
 repeat' first|refine zN ?_|(with_reducible refine oj ?_;refine AOps.splitS rfl rfl rfl rfl (fun hb=>?_) (fun hb=>?_))|(with_reducible refine ok ?_;first|refine ACode.condS rfl (fun hb=>?_) (fun hb=>?_)|refine ACode.cond rfl (fun hb=>?_) (fun hb=>?_))
 all_goals
  refine APure.fin rfl (WkF.ofEq ?_) (by simp) hou rfl
  rw[hn]
  first
   |(rw[if_pos (by simp_all)];done)
   |(rw[if_pos (by simp at *;omega)];done)
   |(rw[if_neg (by simp at *;omega)];done)
set_option maxHeartbeats 1000000 in
theorem Qjk(hΓ:∀g cs,(g,cs)∈Γ->idsL isO cs)(e:List Ex)(he:okE e)(hin:Q0h e)(q:Nat)(hq:q < e.length):APure Tryd.prog Γ 46 [.one (.sl 5 (e.map cEx)),.one (int (q:Nat))] (.one (.box (cTr (Q0t e q)))):=by
 have hel:=he.l
 intro ou
 refine AFn.walk 64 tabOk Tryd.func46 rfl (by kernel_rfl) rfl rfl fun hou=>?_
 refine zA ?_
 have hb:ti90.bytes * (e.map cEx).length<=281474976710656:=by simp;show 8 * _<=_;omega
 have hb2:(e.map cEx).length<=281474976710656:=by simp;omega
 refine zS (AStep.makeArr tabOk rfl rfl rfl rfl rfl rfl rfl rfl hb hb2) ?_
 refine zM ?_
 refine AOps.wk 16 rfl (y:=.one (int ((q+1:Nat):Int))) (.ofEq (by simp)) ?_
 refine zS (AStep.sliceTo tabOk rfl rfl rfl rfl rfl rfl (by simp;omega)) ?_
 obtain⟨e',he'⟩:∃e',e'=e.take (q+1):=⟨_,rfl⟩
 refine AOps.wk 17 rfl (y:=.one (.sl 5 (e'.map cEx))) (.ofEq (by rw[he',List.map_take])) ?_
 have hl':e'.length=q+1:=by rw[he'];simp;omega
 have hmem:∀x∈e',x∈e:=fun x hx=>by rw[he']at hx;exact List.mem_of_mem_take hx
 have hin':Q0h e':=Q4k (l:=e.drop (q+1)) (by rw[he',List.take_append_drop];exact hin)
 have htr:Q0t e q=(growL e').getD q default:=by
  have:=Q3p (e:=e') (l:=e.drop (q+1)) (i:=q) (by omega)
  rw[he',List.take_append_drop]at this
  rw[he'];exact this
 rw[htr]
 clear he' htr
 refine zA ?_
 refine ACode.loopR hΓ (α:=Nat) (fun j=>[(19,.one (int j)),(18,.one (int (e'.map cEx).length)),(17,.one (.sl 5 (e'.map cEx))),(5,.one (.arr (.l 0) 1 0 (e.map cEx).length (e.map cEx).length)),(1,.one (int (q:Nat)))])
  (fun j=>⟨1,[(0,.cells (Q1b (growL (e'.take j)) (e.map cEx).length))],ou⟩) (fun m j=>j<=e'.length/\m=e'.length - j) (a0:=0) (ρ:=id) ⟨by omega,rfl⟩
  (LessR.of rfl zFS (by simp) (LoSub.cons rfl (by rw[AObj.ren_pure _ _ (by simp)];show AObj.cells (List.replicate _ _)=AObj.cells (Q1b [] _);rw[Q93]) rfl (by simp) .nil) rfl rfl hou) fun m j hj=>?_
 obtain⟨hjl,rfl⟩:=hj
 refine zA ?_
 refine ACode.cond rfl (fun hb2=>?_) (fun hb2=>?_)
 ·have hlt:j < e'.length:=by simpa using hb2
  obtain⟨x,hx⟩:=Q00 hlt
  have hxo:=he.x x (hmem x (List.mem_of_getElem? hx))
  have hxk:=hxo.k
  have hxin:=hin' j x hx
  have hgl:(growL (e'.take j)).length=j:=by rw[Q10];simp;omega
  refine zA ?_
  refine zS (zIA rfl rfl rfl (by omega) (Q05 hx)) ?_
  refine zA ?_
  refine ACode.grow 2 3 90 1 rfl rfl ?_
  refine ACode.loopR hΓ (α:=Nat) (fun i=>[(37,.one (int i)),(36,.one (int (x.kids.map cI).length)),(35,.one (.sl 1 (x.kids.map cI))),(8,.one (.ptr (.l 2) 0)),(7,.one (.ptr (.l 1) 0)),(6,.one (int j)),(19,.one (int j)),(18,.one (int (e'.map cEx).length)),(17,.one (.sl 5 (e'.map cEx))),(5,.one (.arr (.l 0) 1 0 (e.map cEx).length (e.map cEx).length)),(1,.one (int (q:Nat)))])
   (fun i=>⟨4,[(3,.tok 90 1 i),(2,.cells [int x.op,int x.n,.sl 1 (x.binds.map cI),.gs 1 ((kidsT (growL (e'.take j)) (x.kids.take i)).map cB) (.l 3),.sl 2 (x.alts.map cAlt)]),(1,.cells (cEx x)),(0,.cells (Q1b (growL (e'.take j)) (e.map cEx).length))],ou⟩)
   (fun m i=>i<=x.kids.length/\m=x.kids.length - i) (a0:=0) (ρ:=id) ⟨by omega,rfl⟩ (LessR.of rfl zFS (by simp) ?_ rfl rfl hou) fun m i hi=>?_
  ·repeat' first|exact LoSub.nil|refine zlc ?_|refine zld ?_ ?_|rfl
   all_goals (simp[AObj.ren,renL,AC.ren,kidsT];rfl)
  obtain⟨hil,rfl⟩:=hi
  refine zA ?_
  refine ACode.cond rfl (fun hb3=>?_) (fun hb3=>?_)
  ·have hlt2:i < x.kids.length:=by simpa using hb3
   obtain⟨k,hk⟩:=Q00 hlt2
   have hkb:=hxin k (List.mem_of_getElem? hk)
   obtain⟨k',rfl⟩:∃k':Nat,k=k':=⟨k.toNat,by omega⟩
   obtain⟨tk,htk⟩:=Q00 (l:=growL (e'.take j)) (i:=k') (by omega)
   have htd:(growL (e'.take j)).getD (k':Int).toNat default=tk:=by rw[Int.toNat_natCast,List.getD_eq_getElem?_getD,htk];rfl
   have hks:=Q97 (ts:=growL (e'.take j)) hk
   rw[htd]at hks
   have hkl:((kidsT (growL (e'.take j)) (x.kids.take i)).map cB).length=i:=by simp[kidsT];omega
   refine zA ?_
   refine zS (zIA rfl rfl rfl (by omega) (Q05 hk)) ?_
   refine zA ?_
   refine ACode.drawXH (va:=.one (.gs 1 ((kidsT (growL (e'.take j)) (x.kids.take i)).map cB++[cB tk]) (.l 4))) (σ1:=(St.set ⟨4,[(3,.tok 90 1 i),(2,.cells [int x.op,int x.n,.sl 1 (x.binds.map cI),.gs 1 ((kidsT (growL (e'.take j)) (x.kids.take i)).map cB) (.l 3),.sl 2 (x.alts.map cAlt)]),(1,.cells (cEx x)),(0,.cells (Q1b (growL (e'.take j)) (e.map cEx).length))],ou⟩ (.l 3) .dead).push (.tok 90 1 ((kidsT (growL (e'.take j)) (x.kids.take i)).map cB++[cB tk]).length))
    tabOk 11 10 [(7,.one (.ptr (.l 0) k')),(8,.one (.box (cTr tk)))] follows (by kernel_rfl) rfl rfl rfl rfl rfl rfl rfl ?_ ?_ ?_ ?_
   ·refine HStep.plain rfl (AStep.append (s:=1) (es:=(kidsT (growL (e'.take j)) (x.kids.take i)).map cB) (news:=[cB tk]) (ti:=ti99) (σ:=⟨4,[(3,.tok 90 1 i),(2,.cells [int x.op,int x.n,.sl 1 (x.binds.map cI),.gs 1 ((kidsT (growL (e'.take j)) (x.kids.take i)).map cB) (.l 3),.sl 2 (x.alts.map cAlt)]),(1,.cells (cEx x)),(0,.cells (Q1b (growL (e'.take j)) (e.map cEx).length))],ou⟩) tabOk rfl rfl rfl rfl rfl rfl (Base.gs' _ 90 1 ((kidsT (growL (e'.take j)) (x.kids.take i)).map cB) (.l 3) rfl hkl.symm) (.sl _ _) rfl ?_ ?_)
    ·rw[hkl];show (i+1) * 8<=_;omega
    ·rw[hkl];show i+1<=_;omega
   ·refine .step rfl (zHP (idxI tabOk rfl rfl rfl rfl rfl rfl rfl (by simp;omega))) ?_
    exact .step rfl (zHP (zLD rfl rfl rfl (Q2y htk))) .nil
   ·refine .step rfl (zHP (idxI tabOk rfl rfl rfl rfl rfl rfl rfl (by simp;omega))) ?_
    exact .step rfl (zHP (zLD rfl rfl rfl (Q2y htk))) .nil
   refine zM ?_
   refine cInv ⟨x.kids.length - (i+1),i+1,fun k=>if k=3 then 4 else k,by omega,⟨by omega,rfl⟩,LessR.of rfl zFS (by simp) ?_ rfl rfl hou⟩
   repeat' first|exact LoSub.nil|refine zlc ?_|refine zld ?_ ?_|rfl
   ·simp only[AObj.ren,List.length_append,hkl];rfl
   ·rw[hks];simp only[AObj.ren,renL,AC.ren,Q3i,Qcx,Q3n];rw[List.map_append];rfl
  have hlt2:i=x.kids.length:=by simp at hb3;omega
  subst hlt2
  rw[List.take_length]
  refine zA ?_
  refine zS (idxI tabOk rfl rfl rfl rfl rfl rfl rfl (by simp;omega)) ?_
  refine AOps.freeze1 (.l 2) 57 rfl rfl ?_
  refine AOps.wk 57 rfl (y:=.one (.box (cTr (Q2c (growL (e'.take j)) x)))) (.one (Wk.box ?_)) ?_
  ·rw[Qbk]
   exact .cons (.refl _) (.cons (.refl _) (.cons (.refl _) (.cons (.gsE (Q34 _).symm) (.cons (.refl _) .nil))))
  refine AOps.storeOwn tabOk rfl rfl rfl rfl rfl rfl rfl rfl (by rw[Q94 (by simp[hgl];omega)];simp;omega) ?_
  have hst:=Q92 (ts:=growL (e'.take j)) (n:=(e.map cEx).length) (by simp[hgl];omega) (Q2c (growL (e'.take j)) x)
  rw[hgl,←Q1m,←Q0j hx]at hst
  rw[hst]
  refine zM ?_
  exact cInv ⟨e'.length - (j+1),j+1,id,by omega,⟨by omega,rfl⟩,LessR.of rfl zFS (by simp) zLO rfl rfl hou⟩
 ·have hlt:j=e'.length:=by simp at hb2;omega
  subst hlt
  rw[List.take_length]
  obtain⟨t,ht⟩:=Q00 (l:=growL e') (i:=q) (by rw[Q10];omega)
  have hgt:(growL e').getD q default=t:=by rw[List.getD_eq_getElem?_getD,ht];rfl
  refine zM ?_
  refine zS (idxI tabOk rfl rfl rfl rfl rfl rfl rfl (by simp;omega)) ?_
  refine zS (zLD rfl rfl rfl (Q2y ht)) ?_
  refine zA ?_
  refine APure.fin rfl (WkF.ofEq ?_) (by simp) hou rfl
  rw[hgt]
end Go.Proofs.YthboaankaaeemaaDoor
namespace Go.CoreX
mutual
def cntN:Tr->Nat
 |.mk _ _ _ k _=>cntNs k+1
def cntNs:List Tr->Nat
 |[]=>0
 |t::l=>cntN t+cntNs l
end
mutual
theorem Q2a:∀(t:Tr)(out:List Ex),(listT out t).length=out.length+cntN t
 |.mk o n b k a,out=>by
  have:=Q9n k out
  simp only[listT,cntN,List.length_append,List.length_singleton];omega
theorem Q9n:∀(l:List Tr)(out:List Ex),(Q01 out l).1.length=out.length+cntNs l
 |[],out=>by simp[Q01,cntNs]
 |t::l,out=>by
  have h1:=Q2a t out
  have h2:=Q9n l (listT out t)
  simp only[Q01,cntNs];omega
end
end Go.CoreX
namespace Go.Proofs.YthboaankaaeemaaDoor
open Go Go.Abs Go.CoreX
variable {Γ:List (Nat×List AC)}
theorem Qg0{e:List Ex}(he:okB e)(h:IsTree e){k:Nat}(hk:k < e.length):okT (Q0t e k):=
 Qfz h (P:=okT) (he.t h.k h.ne) (fun _ _ ht hs=>Qab ht hs) k hk
theorem Cut_ok(e:List Ex)(he:okB e)(n:Int):APure Tryd.prog Γc 25 [.one (.sl 5 (e.map cEx)),.one (int n)] (.tup [.one (.sl 5 ((cutAt e n).1.map cEx)),.one (int (cutAt e n).2)]):=by
 intro ou
 refine AFn.walk 17 tabOk Tryd.func25 rfl (by kernel_rfl) rfl rfl fun hou=>?_
 refine zA ?_
 refine zca hΓc (at_ok e he n) hou ?_
 refine zA ?_
 refine ACode.cond rfl (fun hb=>?_) (fun hb=>?_)
 ·have h:atErr e n≠0:=by simpa using hb
  have ho:cutAt e n=([],atErr e n):=by unfold cutAt;rw[if_pos h]
  rw[ho]
  refine zA ?_
  exact APure.fin rfl (WkF.tup (.cons (.one (.nilS 5)) (.cons (.refl _) .nil))) (by simp) hou rfl
 ·have h:atErr e n=0:=by simpa using hb
  have ho:cutAt e n=(listT [] (Q0t e n.toNat),0):=by unfold cutAt;rw[if_neg (by simpa using h)]
  obtain⟨h1,h2,h3⟩:=Qfs h
  have t1:=Q12 h1
  have hl:=len_sub t1 h3
  have hel:=he.eo.l
  rw[ho]
  obtain⟨q,rfl⟩:∃q:Nat,n=q:=⟨n.toNat,by omega⟩
  rw[Int.toNat_natCast]at *
  refine zA ?_
  refine zca hΓc (Qjk hΓc e he.eo t1.k q h3) hou ?_
  refine zca hΓc (List_ok hΓc (Q0t e q) (Qg0 he t1 h3) (by omega)) hou ?_
  refine zA ?_
  exact APure.fin rfl (WkF.ofEq rfl) (by simp) hou rfl
end Go.Proofs.YthboaankaaeemaaDoor
namespace Go.CoreX
end Go.CoreX
namespace Go.Proofs.YthboaankaaeemaaDoor
open Go Go.Abs Go.CoreX
variable {Γ:List (Nat×List AC)}
def ow8 (l:List Int):Option Nat->AC
 |none=>.lit (.slice none 0 0)
 |some cap=>.arr (.l 0) 1 0 (l.map cI).length cap
def st8 (l:List Int)(ou:Outer):Option Nat->St
 |none=>⟨0,[],ou⟩
 |some cap=>⟨1,[(0,.cells (vec 1 (l.map cI) cap))],ou⟩
@[simp] theorem ids_ow8 (l l':List Int) (ou:Outer) (oc:Option Nat):(ow8 l oc).ids (inL (st8 l' ou oc).n):=by cases oc <;> simp[ow8,st8,AC.ids,inL]
end Go.Proofs.YthboaankaaeemaaDoor
namespace Go.CoreX
end Go.CoreX
namespace Go.Proofs.YthboaankaaeemaaDoor
open Go Go.Abs Go.CoreX
variable {Γ:List (Nat×List AC)}
end Go.Proofs.YthboaankaaeemaaDoor
namespace Go.CoreX
open Go.Abs (orI subI anI)
def ex0:Ex:=⟨0,0,[],[],[]⟩
def exN (e:List Ex)(i:Nat):Ex:=e.getD i ex0
def shK (e:List Ex)(k:Int):Tr:=.mk (exN e k.toNat).op (exN e k.toNat).n (exN e k.toNat).binds [] []
end Go.CoreX
namespace Go.Proofs.YthboaankaaeemaaDoor
open Go Go.Abs Go.CoreX
variable {Γ:List (Nat×List AC)}
def shD (e:List Ex)(l:List Int):List (List AC):=l.map fun k=>cB (shK e k)
@[simp] theorem ids_shD (p:Abs.Id->Prop) (e:List Ex) (l:List Int):idsS p (shD e l):=Q2u (fun k=>by simp[cB]) l
@[simp] theorem ren_shD (ρ:Nat->Nat) (e:List Ex) (l:List Int):renS ρ (shD e l)=shD e l:=Q1h ρ _ (by simp)
end Go.Proofs.YthboaankaaeemaaDoor
namespace Go.CoreX
end Go.CoreX
namespace Go.Proofs.YthboaankaaeemaaDoor
open Go Go.Abs Go.CoreX
variable {Γ:List (Nat×List AC)}
theorem W_ok(hΓ:∀g cs,(g,cs)∈Γ->idsL isO cs)(n:Int):APure Tryd.prog Γ 15 [.one (int n)] (.one (.box (cNd (.mk 1 n [] [] [])))):=by
 intro ou
 refine AFn.walk 5 tabOk Tryd.func15 rfl (by kernel_rfl) rfl rfl fun hou=>?_
 refine zA ?_
 refine AOps.callCW (ws:=[.one (int 1),.one (int n),.one (.sl 1 (Q2p []))]) hΓ (N_ok 1 n []) rfl rfl rfl rfl rfl rfl ?_ hou (by simp) ?_
 ·exact .cons (.refl _) (.cons (.refl _) (.cons (.one (.nilS 1)) .nil))
 refine zA ?_
 exact APure.fin rfl (WkF.ofEq rfl) (by simp) hou rfl
end Go.Proofs.YthboaankaaeemaaDoor
namespace Go.CoreX
abbrev Nb:=Option (Nat×Nat)
structure LAlt where
 tag:Int
 nb:Nb
 binds:List Int
def LAlt.er (a:LAlt):Alt:=⟨a.tag,a.binds⟩
inductive LTr where
 |mk (id:Nat) (op n:Int) (nb:Nb) (binds:List Int) (kids:List LTr) (alts:List LAlt)
instance:Inhabited LTr:=⟨.mk 0 0 0 none [] [] []⟩
def LTr.id:LTr->Nat|.mk i _ _ _ _ _ _=>i
def LTr.kids:LTr->List LTr|.mk _ _ _ _ _ k _=>k
mutual
def erT:LTr->Tr
 |.mk _ o n _ b k a=>.mk o n b (erTs k) (a.map LAlt.er)
def erTs:List LTr->List Tr
 |[]=>[]
 |t::ts=>erT t::erTs ts
end
theorem Q2i:∀l:List LTr,erTs l=l.map erT
 |[]=>rfl
 |t::l=>by simp[erTs,Q2i l]
end Go.CoreX
namespace Go.Proofs.YthboaankaaeemaaDoor
open Go Go.Abs Go.CoreX
variable {Γ:List (Nat×List AC)}
def bC:Nb->List Int->AC
 |none,l=>.sl 1 (l.map cI)
 |some (a,cap),l=>.arr (.o a) 1 0 (l.map cI).length cap
def bO:Nb->List Int->List (Nat×AObj)
 |none,_=>[]
 |some (a,cap),l=>[(a,.cells (vec 1 (l.map cI) cap))]
def lAlt (x:LAlt):List AC:=[int x.tag,bC x.nb x.binds]
def aO (l:List LAlt):List (Nat×AObj):=l.flatMap fun x=>bO x.nb x.binds
def kC (l:List LTr):List (List AC):=l.map fun t=>[.ptr (.o t.id) 0]
def lC:LTr->List AC
 |.mk _ o n nb b k a=>[int o,int n,bC nb b,.sl 1 (kC k),.sl 2 (a.map lAlt)]
mutual
def objs:LTr->List (Nat×AObj)
 |.mk i o n nb b k a=>(i,.cells [int o,int n,bC nb b,.sl 1 (kC k),.sl 2 (a.map lAlt)])::(bO nb b++aO a)++objss k
def objss:List LTr->List (Nat×AObj)
 |[]=>[]
 |t::ts=>objs t++objss ts
end
abbrev keys (l:List (Nat×AObj)):List Nat:=l.map (·.1)
def Owns (ou:Outer)(l:List (Nat×AObj)):Prop:=∀p∈l,ou p.1=some p.2
theorem Owns.app{ou:Outer}{l r:List (Nat×AObj)}:Owns ou (l++r)↔Owns ou l/\Owns ou r:=by
 unfold Owns
 constructor
 ·exact fun h=>⟨fun p hp=>h p (by simp[hp]),fun p hp=>h p (by simp[hp])⟩
 ·rintro⟨h1,h2⟩ p hp
  rcases List.mem_append.1 hp with hp|hp
  ·exact h1 p hp
  ·exact h2 p hp
theorem Owns.frame{ou ou':Outer}{l:List (Nat×AObj)}(h:Owns ou l)(hf:∀j∈keys l,ou' j=ou j):Owns ou' l:=fun p hp=>(hf p.1 (List.mem_map_of_mem hp)).trans (h p hp)
theorem Q2s:∀l:List LTr,objss l=l.flatMap objs
 |[]=>rfl
 |t::l=>by simp[objss,Q2s l]
theorem Q2m(l r:List LTr):objss (l++r)=objss l++objss r:=by simp[Q2s]
theorem Qep:∀t:LTr,t.id∈keys (objs t)
 |.mk i o n nb b k a=>by simp[objs,LTr.id]
theorem Q32{ou:Outer}:∀{t:LTr},Owns ou (objs t)->ou t.id=some (.cells (lC t))
 |.mk i o n nb b k a,h=>h (i,.cells [int o,int n,bC nb b,.sl 1 (kC k),.sl 2 (a.map lAlt)]) (by simp[objs])
theorem Qeo(p:Abs.Id->Prop)(hp:∀k,p (.o k))(nb:Nb)(l:List Int):(bC nb l).ids p:=by
 cases nb with
 |none=>simp[bC,AC.ids]
 |some x=>exact hp _
theorem Qh4(p:Abs.Id->Prop)(hp:∀k,p (.o k))(l:List LTr):idsS p (kC l):=Q2u (f:=fun t:LTr=>[.ptr (.o t.id) 0]) (fun t=>by simp only[idsL,AC.ids,and_true];exact hp _) l
theorem Q7p(p:Abs.Id->Prop)(hp:∀k,p (.o k))(l:List LAlt):idsS p (l.map lAlt):=Q2u (f:=lAlt) (fun t=>by simp only[lAlt,idsL,AC.ids,and_true,true_and];exact Qeo p hp _ _) l
theorem Qdg{Γ:List (Nat×List AC)}{F:Nat->Prop}{w:World}{C C':Ctx}{σ:St}(hi:Inv Γ F w C σ)(hc:Chg isO w C w C'){nb:Nb}{l:List Int}(ho:Owns σ.ou (bO nb l))(hp:∀k∈keys (bO nb l),∀a:Addr,a.block=C.blk (.o k)->C'.prot a){v:Value}
  (hr:R w C (bC nb l) v):R w C' (.sl 1 (l.map cI)) v:=by
 cases nb with
 |none=>exact R.chg hc (.sl 1 (l.map cI)) v (Q7r _ _) hr
 |some x=>
  obtain⟨a,cap⟩:=x
  have hg:σ.get (.o a)=some (.cells (vec 1 (l.map cI) cap)):=ho (a,.cells (vec 1 (l.map cI) cap)) (by simp[bO])
  obtain⟨hok,zs,T,b1,b2,b3,b4⟩:=hi.obj _ _ hg
  simp only[bC,R,Nat.zero_mul]at hr
  refine⟨some ⟨C.blk (.o a),0,none⟩,cap,hr.2.1,hr.2.2,.inr ⟨_,rfl,rfl,?_⟩⟩
  have hl:∀x∈l.map cI,x.length=1:=fun x hx=>by obtain⟨n,_,rfl⟩:=List.mem_map.1 hx;rfl
  have hfl:=Q3d hl
  have hzl:=RV.length b3
  have hfi:idsL isO (l.map cI).flatten:=by
   refine Q6r.2 fun c hc=>?_
   obtain⟨e,he,hce⟩:=List.mem_flatten.1 hc
   obtain⟨n,_,rfl⟩:=List.mem_map.1 he
   simp[cI]at hce;subst hce;trivial
  have hv:RV w C' (l.map cI).flatten (zs.take ((l.map cI).length * 1)):=by
   refine RV.chg hc _ _ hfi ?_
   have:=b3.take ((l.map cI).length * 1)
   rwa [vec,List.take_append_of_le_length (by omega),List.take_of_length_le (by omega)]at this
  refine RS.ofVals 0 hl hv fun j v hj=>⟨?_,hp a (by simp[bO]) _ rfl⟩
  have h2:j < (l.map cI).length * 1:=by have:=(List.getElem?_eq_some_iff.1 hj).1;simp at this ⊢;omega
  rw[List.getElem?_take_of_lt h2]at hj
  rw[Nat.zero_add,cell_of_row _ _ _ _ _ _ b1]
  simpa using hj
theorem Qhu{Γ:List (Nat×List AC)}{F:Nat->Prop}{w:World}{C C':Ctx}{σ:St}(hi:Inv Γ F w C σ)(hc:Chg isO w C w C'):∀{l:List LAlt},Owns σ.ou (aO l)->(∀k∈keys (aO l),∀a:Addr,a.block=C.blk (.o k)->C'.prot a)->∀ad:Addr,
  RS w C 2 (l.map lAlt) ad->RS w C' 2 ((l.map LAlt.er).map cAlt) ad
 |[],_,_,ad,_=>by simp[RS]
 |x::l,ho,hp,ad,hr=>by
  have e:aO (x::l)=bO x.nb x.binds++aO l:=rfl
  rw[e]at ho hp
  obtain⟨ho1,ho2⟩:=Owns.app.1 ho
  simp only[List.map_cons,RS,lAlt,RL]at hr
  obtain⟨_,⟨⟨u,hu,hup,hur⟩,⟨v,hv,hvp,hvr⟩,_⟩,hrest⟩:=hr
  refine⟨rfl,⟨⟨u,hu,hc.prot _ hup,R.chg hc _ u trivial hur⟩,⟨v,hv,hc.prot _ hvp,?_⟩,trivial⟩,Qhu hi hc ho2 (fun k hk=>hp k (by simp[keys]at hk ⊢;exact .inr hk)) _ hrest⟩
  exact Qdg hi hc ho1 (fun k hk=>hp k (by simp[keys]at hk ⊢;exact .inl hk)) hvr
mutual
theorem Qdy{Γ:List (Nat×List AC)}{F:Nat->Prop}{w:World}{C C':Ctx}{σ:St}(hi:Inv Γ F w C σ)(hc:Chg isO w C w C'):∀t:LTr,Owns σ.ou (objs t)->(∀k∈keys (objs t),∀a:Addr,a.block=C.blk (.o k)->C'.prot a)->RL w C' (cTr (erT t)) ⟨C.blk (.o t.id),0,none⟩
 |.mk i o n nb b k a,ho,hp=>by
  have hg:σ.get (.o i)=some (.cells (lC (.mk i o n nb b k a))):=Q32 (t:=.mk i o n nb b k a) ho
  obtain⟨hok,zs,T,b1,b2,b3,b4⟩:=hi.obj _ _ hg
  have e:objs (.mk i o n nb b k a)=[(i,.cells [int o,int n,bC nb b,.sl 1 (kC k),.sl 2 (a.map lAlt)])]++((bO nb b++aO a)++objss k):=by simp[objs]
  rw[e]at ho hp
  obtain⟨_,ho2⟩:=Owns.app.1 ho
  obtain⟨ho3,hok2⟩:=Owns.app.1 ho2
  obtain⟨hob,hoa⟩:=Owns.app.1 ho3
  have hpb:∀k'∈keys (bO nb b),∀a:Addr,a.block=C.blk (.o k')->C'.prot a:=fun k' hk=>hp k' (by simp[keys]at hk ⊢;exact .inr (.inl hk))
  have hpa:∀k'∈keys (aO a),∀a:Addr,a.block=C.blk (.o k')->C'.prot a:=fun k' hk=>hp k' (by simp[keys]at hk ⊢;exact .inr (.inr (.inl hk)))
  have hpk:∀k'∈keys (objss k),∀a:Addr,a.block=C.blk (.o k')->C'.prot a:=fun k' hk=>hp k' (by simp[keys]at hk ⊢;exact .inr (.inr (.inr hk)))
  simp only[lC,RV,R]at b3
  obtain⟨v1,_,rfl,⟨rfl,_⟩,v2,_,rfl,⟨rfl,_⟩,v3,_,rfl,h3,v4,_,rfl,⟨a4,c4,rfl,l4,h4⟩,v5,_,rfl,⟨a5,c5,rfl,l5,h5⟩,rfl⟩:=b3
  have hrv:RV w C' (cTr (erT (.mk i o n nb b k a))) [.int .i64 o,.int .i64 n,v3,.slice a4 (kC k).length c4,.slice a5 (a.map lAlt).length c5]:=by
   simp only[cTr,erT,Tr.op_mk,Tr.n_mk,Tr.binds_mk,Tr.kids_mk,Tr.alts_mk,RV]
   refine⟨_,_,rfl,by simp[R,Value.oneCell'],_,_,rfl,by simp[R,Value.oneCell'],_,_,rfl,Qdg hi hc hob hpb h3,_,_,rfl,?_,_,_,rfl,?_,rfl⟩
   ·refine⟨a4,c4,by simp[kC,Q2i],by simpa[kC,Q2i]using l4,?_⟩
    rcases h4 with h4|⟨ad,rfl,hs,h4⟩
    ·left
     simp only[kC,List.map_eq_nil_iff]at h4
     subst h4;rfl
    ·exact .inr ⟨ad,rfl,hs,Qbe hi hc k hok2 hpk ad h4⟩
   ·refine⟨a5,c5,by simp,by simpa using l5,?_⟩
    rcases h5 with h5|⟨ad,rfl,hs,h5⟩
    ·left
     simp only[List.map_eq_nil_iff]at h5
     subst h5;rfl
    ·exact .inr ⟨ad,rfl,hs,Qhu hi hc hoa hpa ad h5⟩
  refine RL.of_new 0 hrv (fun j v hj=>?_) (fun ad ha=>?_)
  ·rw[Nat.zero_add]
   show w.cell? ⟨C.blk (.o i),j,none⟩=some v
   rw[cell_of_row _ _ _ _ _ _ b1]
   simpa using hj
  ·exact hp i (by simp[keys]) _ ha
theorem Qbe{Γ:List (Nat×List AC)}{F:Nat->Prop}{w:World}{C C':Ctx}{σ:St}(hi:Inv Γ F w C σ)(hc:Chg isO w C w C'):∀l:List LTr,Owns σ.ou (objss l)->(∀k∈keys (objss l),∀a:Addr,a.block=C.blk (.o k)->C'.prot a)->∀ad:Addr,RS w C 1 (kC l) ad->RS w C' 1 (Q0u (erTs l)) ad
 |[],_,_,ad,_=>by simp[erTs,Q0u,RS]
 |t::l,ho,hp,ad,hr=>by
  have e:objss (t::l)=objs t++objss l:=rfl
  rw[e]at ho hp
  obtain⟨ho1,ho2⟩:=Owns.app.1 ho
  simp only[kC,List.map_cons,RS,RL,R]at hr
  obtain⟨_,⟨⟨u,hu,hup,_,hur⟩,_⟩,hrest⟩:=hr
  simp only[erTs,Q0u,RS]
  refine⟨rfl,⟨⟨u,hu,hc.prot _ hup,⟨_,hur,rfl,?_⟩⟩,trivial⟩,Qbe hi hc l ho2 (fun k hk=>hp k (by simp[keys]at hk ⊢;exact .inr hk)) _ hrest⟩
  rw[Qau]
  exact Qdy hi hc t ho1 fun k hk=>hp k (by simp[keys]at hk ⊢;exact .inl hk)
end
mutual
theorem Q8w:∀t:LTr,∀p∈objs t,∃cs,p.2=.cells cs
 |.mk i o n nb b k a,p,hp=>by
  simp only[objs,List.cons_append,List.mem_cons,List.mem_append]at hp
  have hb:∀(nb:Nb) (l:List Int),∀p∈bO nb l,∃cs,p.2=.cells cs:=fun nb l p hp=>by
   cases nb with
   |none=>simp[bO]at hp
   |some x=>simp[bO]at hp;subst hp;exact⟨_,rfl⟩
  rcases hp with rfl|(hp|hp)|hp
  ·exact⟨_,rfl⟩
  ·exact hb _ _ p hp
  ·unfold aO at hp
   obtain⟨x,_,hx⟩:=List.mem_flatMap.1 hp
   exact hb _ _ p hx
  ·exact Q7e k p hp
theorem Q7e:∀l:List LTr,∀p∈objss l,∃cs,p.2=.cells cs
 |[],p,hp=>by simp[objss]at hp
 |t::l,p,hp=>by
  simp only[objss,List.mem_append]at hp
  rcases hp with hp|hp
  ·exact Q8w t p hp
  ·exact Q7e l p hp
end
theorem LendF.tree{σ:St}{t:LTr}(h:Owns σ.ou (objs t)):LendF σ (.one (.ptr (.o t.id) 0)) (.one (.box (cTr (erT t)))):=by
 intro Γ F w C v hi hr
 simp only[RF,R]at hr
 refine⟨_,hr.2,rfl,Qdy hi hi.stillChg t h fun k hk a ha=>?_⟩
 obtain⟨p,hp,rfl⟩:=List.mem_map.1 hk
 obtain⟨cs,hcs⟩:=Q8w t p hp
 show a.block < w.heap.size
 rw[ha]
 exact (AObj.block_lt (hi.obj (.o p.1) p.2 (h p hp)).2 (by rw[hcs];rfl)).2
end Go.Proofs.YthboaankaaeemaaDoor
namespace Go.CoreX
def frB (f:Int)(l:List Int):List Int:=(List.range l.length).map fun i:Nat=>f+i
def frN (m:Nm)(f:Int)(l:List Int):Nm:=putsN m l (frB f l)
end Go.CoreX
namespace Go.Proofs.YthboaankaaeemaaDoor
open Go Go.Abs Go.CoreX
variable {Γ:List (Nat×List AC)}
end Go.Proofs.YthboaankaaeemaaDoor
namespace Go.CoreX
def rnAs (nm:Nm)(f:Int):List LAlt->List LAlt×Nm×Int
 |[]=>([],nm,f)
 |x::l=>(⟨x.tag,x.nb,frB f x.binds⟩::(rnAs (frN nm f x.binds) (f+x.binds.length) l).1,(rnAs (frN nm f x.binds) (f+x.binds.length) l).2)
def ren1 (o:Int)(nm:Nm)(f:Int)(b:List Int):List Int×Nm×Int:=if o=9 then (b,nm,f)else (frB f b,frN nm f b,f+b.length)
mutual
def rnL (nm:Nm)(f:Int):LTr->LTr×Nm×Int
 |.mk i o n nb b k a=>
  let s1:=ren1 o nm f b
  let s2:=rnAs s1.2.1 s1.2.2 a
  let s3:=rnLs s2.2.1 s2.2.2 k
  (.mk i o (if o=0 then (nm n).getD n else n) nb s1.1 s3.1 s2.1,s3.2)
def rnLs (nm:Nm)(f:Int):List LTr->List LTr×Nm×Int
 |[]=>([],nm,f)
 |t::l=>((rnL nm f t).1::(rnLs (rnL nm f t).2.1 (rnL nm f t).2.2 l).1,(rnLs (rnL nm f t).2.1 (rnL nm f t).2.2 l).2)
end
def ownB (nb:Nb)(b:List Int):Prop:=nb=none->b=[]
mutual
def okL:LTr->Prop
 |.mk _ o _ nb b k a=>(o≠9->ownB nb b)/\b.length<=1048576/\k.length<=1048576/\a.length<=1048576/\(∀x∈a,ownB x.nb x.binds/\x.binds.length<=1048576)/\okLs k
def okLs:List LTr->Prop
 |[]=>True
 |t::l=>okL t/\okLs l
end
theorem Qe4:∀{l:List LTr},okLs l↔∀t∈l,okL t
 |[]=>by simp[okLs]
 |t::l=>by simp[okLs,Qe4 (l:=l)]
end Go.CoreX
namespace Go.Proofs.YthboaankaaeemaaDoor
open Go Go.Abs Go.CoreX
variable {Γ:List (Nat×List AC)}
theorem Qag(l r:List (Nat×AObj)):keys (l++r)=keys l++keys r:=by simp[keys]
def fnR (kn kf kw:Nat):AC:=.fn (.func 67) [] [.ptr (.o kn) 0,.ptr (.o kf) 0,.ptr (.o kw) 0]
theorem Qj3(o n:Int)(nb:Nb)(b:List Int)(ks:List LTr)(a:List LAlt):(AObj.cells [int o,int n,bC nb b,.sl 1 (kC ks),.sl 2 (a.map lAlt)]).ids isO:=
 ⟨trivial,trivial,Qeo _ (fun _=>trivial) _ _,Qh4 _ (fun _=>trivial) _,Q7p _ (fun _=>trivial) _,trivial⟩
theorem Q2r{ou:Outer}{k:Nat}{os:List AObj}(h:OuOk ou)(ho:∀o∈os,o.ids isO):OuOk (ouAdd ou k os):=by
 intro m o hm
 rcases Nat.lt_or_ge m k with h1|h1
 ·rw[Q26 h1]at hm;exact h m o hm
 ·obtain⟨p,rfl⟩:∃p,m=k+p:=⟨m - k,by omega⟩
  rw[Q0f]at hm
  exact ho o (List.mem_of_getElem? hm)
structure NewO (ou ou':Outer)(L:List (Nat×AObj)):Prop where
 own:Owns ou' L
 new:∀k∈keys L,ou k=none
 old:∀m,m∉keys L->ou' m=ou m
 ok:OuOk ou'
 nd:(keys L).Nodup
theorem NewO.nil{ou:Outer}(h:OuOk ou):NewO ou ou []:=⟨fun p hp=>by simp at hp,fun k hk=>by simp[keys]at hk,fun _ _=>rfl,h,by simp[keys]⟩
theorem NewO.trans{ou ou1 ou2:Outer}{L M:List (Nat×AObj)}(h:NewO ou ou1 L)(k:NewO ou1 ou2 M):NewO ou ou2 (L++M):=by
 have hLM:∀j∈keys L,j∉keys M:=fun j hj hm=>by
  have h1:=k.new j hm
  obtain⟨p,hp,rfl⟩:=List.mem_map.1 hj
  rw[h.own p hp]at h1
  cases h1
 refine⟨Owns.app.2 ⟨h.own.frame fun j hj=>k.old j (hLM j hj),k.own⟩,fun j hj=>?_,fun m hm=>?_,k.ok,?_⟩
 ·rw[Qag,List.mem_append]at hj
  by_cases e:j∈keys L
  ·exact h.new j e
  ·rw[←h.old j e]
   exact k.new j (hj.resolve_left e)
 ·rw[Qag,List.mem_append,not_or]at hm
  rw[k.old m hm.2,h.old m hm.1]
 ·rw[Qag,List.nodup_append]
  exact⟨h.nd,k.nd,fun a ha b hb e=>hLM a ha (e▸hb)⟩
end Go.Proofs.YthboaankaaeemaaDoor
namespace Go.CoreX
theorem Qey:∀{e f:List Ex},e.map (·.kids)=f.map (·.kids)->∀i,cnt e i=cnt f i
 |[],[],_,_=>rfl
 |[],_::_,h,_=>by simp at h
 |_::_,[],h,_=>by simp at h
 |x::e,y::f,h,i=>by
  simp only[List.map_cons,List.cons.injEq]at h
  simp only[cnt,h.1,Qey h.2 i]
def ixE (e:List Ex):List Ex:=e.mapIdx fun i x=>{ x with n:=(i:Nat) }
theorem Q7o{e:List Ex}{i:Nat}:(ixE e)[i]?=(e[i]?).map fun x=>{ x with n:=(i:Nat) }:=by simp[ixE]
theorem Qj2(e:List Ex):(ixE e).map (·.kids)=e.map (·.kids):=by
 apply List.ext_getElem?
 intro i
 simp only[List.getElem?_map,Q7o]
 cases e[i]? <;> rfl
theorem Qah(e:List Ex):(ixE e).length=e.length:=by simp[ixE]
theorem Qj1{e:List Ex}(h:IsTree e):IsTree (ixE e):=by
 refine⟨fun e0=>h.ne (by have:=Qah e;rw[e0]at this;exact List.length_eq_zero_iff.1 (by simpa using this.symm)),fun j x hx=>?_,fun i hi=>?_⟩
 ·rw[Q7o]at hx
  cases he:e[j]? with
  |none=>rw[he]at hx;cases hx
  |some y=>
   rw[he]at hx
   simp at hx;subst hx
   exact h.k j y he
 ·rw[Qey (Qj2 e),Qah]
  exact h.c i (by rw[Qah]at hi;exact hi)
theorem labs_n(e:List Ex):(labs e).map (·.n)=e.map (·.n):=by simp[labs,labE]
theorem ixE_n(e:List Ex):(ixE e).map (·.n)=(List.range e.length).map fun i:Nat=>(i:Int):=by
 apply List.ext_getElem?
 intro i
 simp only[List.getElem?_map,Q7o]
 by_cases h:i < e.length
 ·simp[h]
 ·simp[h]
end Go.CoreX
namespace Go.Proofs.YthboaankaaeemaaDoor
open Go Go.Abs Go.CoreX
def ownO:LTr->List (Nat×AObj)
 |.mk i o n nb b k a=>(bO nb b++aO a)++[(i,.cells [int o,int n,bC nb b,.sl 1 (kC k),.sl 2 (a.map lAlt)])]
theorem Qe8:∀(t:LTr)(p:Nat×AObj),p∈objs t↔p∈ownO t∨p∈objss t.kids
 |.mk i o n nb b k a,p=>by
  simp only[objs,ownO,LTr.kids,List.cons_append,List.mem_cons,List.mem_append,List.not_mem_nil,or_false]
  constructor
  ·rintro (h|(h|h)|h) <;> simp[h]
  ·rintro (((h|h)|h)|h) <;> simp[h]
theorem Qfb(k:Nat):∀t:LTr,(keys (objs t)).count k=(keys (ownO t)).count k+(keys (objss t.kids)).count k
 |.mk i o n nb b ks a=>by
  simp only[objs,ownO,LTr.kids,keys,List.map_cons,List.map_append,List.cons_append,List.count_cons,List.count_append,List.map_nil,List.count_nil]
  omega
structure LinkL (e:List Ex)(lts:List LTr)(B:Nb->List Int->Prop:=ownB):Prop where
 len:lts.length=e.length
 at_:∀(i:Nat) (x:Ex),e[i]?=some x->∃id nb a,lts[i]?=some (.mk id x.op x.n nb x.binds (x.kids.map fun q=>lts.getD q.toNat default) a)/\a.map LAlt.er=x.alts/\B nb x.binds/\∀y∈a,B y.nb y.binds
theorem LinkL.nil{B:Nb->List Int->Prop}:LinkL [] [] B:=⟨rfl,fun i x h=>by simp at h⟩
theorem LinkL.snoc{B:Nb->List Int->Prop}{e:List Ex}{lts:List LTr}(h:LinkL e lts B)(hk:Q0h e){x:Ex}(hx:∀q∈x.kids,0<=q/\q < (e.length:Int)){id:Nat}{nb:Nb}{a:List LAlt}(ha:a.map LAlt.er=x.alts)(hb:B nb x.binds)(hab:∀y∈a,B y.nb y.binds):
  LinkL (e++[x]) (lts++[.mk id x.op x.n nb x.binds (x.kids.map fun q=>lts.getD q.toNat default) a]) B:=by
 have hgd:∀(q:Int),0<=q->q < (e.length:Int)->∀t,(lts++[t]).getD q.toNat default=lts.getD q.toNat default:=fun q h0 h1 t=>Q5b (by rw[h.len];omega)
 refine⟨by simp[h.len],fun i y hy=>?_⟩
 by_cases hi:i < e.length
 ·rw[List.getElem?_append_left hi]at hy
  obtain⟨id',nb',a',h1,h2,h3,h4⟩:=h.at_ i y hy
  refine⟨id',nb',a',?_,h2,h3,h4⟩
  rw[List.getElem?_append_left (by rw[h.len];exact hi),h1]
  congr 2
  refine List.map_congr_left fun q hq=>?_
  have:=hk i y hy q hq
  exact (hgd q this.1 (by omega) _).symm
 ·have hie:i=e.length:=by
   have:=(List.getElem?_eq_some_iff.1 hy).1
   simp at this;omega
  subst hie
  simp at hy
  subst hy
  refine⟨id,nb,a,?_,ha,hb,hab⟩
  rw[←h.len,List.getElem?_append_right (by simp)]
  simp only[Nat.sub_self,List.getElem?_cons_zero]
  congr 2
  exact List.map_congr_left fun q hq=>(hgd q (hx q hq).1 (hx q hq).2 _).symm
section
variable {e:List Ex}{lts:List LTr}{B:Nb->List Int->Prop}
theorem LinkL.getD(h:LinkL e lts B){i:Nat}{t:LTr}(ht:lts[i]?=some t):lts.getD i default=t:=by rw[List.getD_eq_getElem?_getD,ht];rfl
theorem LinkL.er(h:LinkL e lts B)(hk:Q0h e):∀(n i:Nat)(t:LTr),i < n->lts[i]?=some t->erT t=Q0t e i
 |0,i,t,hi,_=>by omega
 |n+1,i,t,hi,ht=>by
  have hil:i < e.length:=by rw[←h.len];exact (List.getElem?_eq_some_iff.1 ht).1
  obtain⟨x,hx⟩:=Q00 hil
  obtain⟨id,nb,a,h1,h2,_⟩:=h.at_ i x hx
  rw[ht]at h1
  cases h1
  rw[Q2z hk hx]
  simp only[erT,h2,Q2i,List.map_map]
  congr 1
  refine List.map_congr_left fun q hq=>?_
  have hq':=hk i x hx q hq
  obtain⟨t',ht'⟩:=Q00 (l:=lts) (i:=q.toNat) (by rw[h.len];omega)
  simp only[Function.comp,h.getD ht']
  exact h.er hk n q.toNat t' (by omega) ht'
theorem LinkL.own(h:LinkL e lts B)(hk:Q0h e):∀(n i:Nat)(t:LTr),i < n->lts[i]?=some t->∀p∈objs t,p∈lts.flatMap ownO
 |0,i,t,hi,_=>by omega
 |n+1,i,t,hi,ht=>fun p hp=>by
  have hil:i < e.length:=by rw[←h.len];exact (List.getElem?_eq_some_iff.1 ht).1
  obtain⟨x,hx⟩:=Q00 hil
  obtain⟨id,nb,a,h1,_⟩:=h.at_ i x hx
  rw[ht]at h1
  rcases (Qe8 t p).1 hp with hp|hp
  ·exact List.mem_flatMap.2 ⟨t,List.mem_of_getElem? ht,hp⟩
  ·cases h1
   simp only[LTr.kids,Q2s]at hp
   obtain⟨u,hu,hpu⟩:=List.mem_flatMap.1 hp
   obtain⟨q,hq,rfl⟩:=List.mem_map.1 hu
   have hq':=hk i x hx q hq
   obtain⟨t',ht'⟩:=Q00 (l:=lts) (i:=q.toNat) (by rw[h.len];omega)
   rw[h.getD ht']at hpu
   exact h.own hk n q.toNat t' (by omega) ht' p hpu
def ownC (lts:List LTr)(k:Nat)(l:Lab):Int:=((keys (ownO (lts.getD l.n.toNat default))).count k:Nat)
theorem Q7d(k:Nat):∀l:List LTr,(((keys (objss l)).count k:Nat):Int)=(l.map fun t=>(((keys (objs t)).count k:Nat):Int)).sum
 |[]=>by simp[objss,keys]
 |t::l=>by
  have:=Q7d k l
  simp only[keys]at this
  simp only[objss,keys,List.map_append,List.count_append,List.map_cons,List.sum_cons,←this]
  push_cast;rfl
theorem LinkL.count(h:LinkL e lts B)(hk:Q0h e)(k:Nat):∀(n i:Nat)(t:LTr),i < n->lts[i]?=some t->sumT (ownC lts k) (Q0t (ixE e) i)=((keys (objs t)).count k:Nat)
 |0,i,t,hi,_=>by omega
 |n+1,i,t,hi,ht=>by
  have hil:i < e.length:=by rw[←h.len];exact (List.getElem?_eq_some_iff.1 ht).1
  obtain⟨x,hx⟩:=Q00 hil
  obtain⟨id,nb,a,h1,_⟩:=h.at_ i x hx
  rw[ht]at h1
  have hki:Q0h (ixE e):=fun j y hy=>by
   rw[Q7o]at hy
   cases he:e[j]? with
   |none=>rw[he]at hy;cases hy
   |some z=>
    rw[he]at hy
    simp at hy;subst hy
    exact hk j z he
  have hxi:(ixE e)[i]?=some { x with n:=(i:Nat) }:=by rw[Q7o,hx];rfl
  rw[Q2z hki hxi]
  simp only[sumT,Q6j,List.map_map]
  rw[Qfb]
  have e1:ownC lts k ⟨x.op,(i:Nat),x.binds,x.kids.map (Tr.op∘fun k=>Q0t (ixE e) k.toNat),x.alts⟩=((keys (ownO t)).count k:Nat):=by
   unfold ownC
   simp only[Int.toNat_natCast,h.getD ht]
  have e2:(x.kids.map (sumT (ownC lts k)∘fun k=>Q0t (ixE e) k.toNat)).sum=((keys (objss t.kids)).count k:Nat):=by
   rw[Q7d]
   cases h1
   simp only[LTr.kids,List.map_map]
   congr 1
   refine List.map_congr_left fun q hq=>?_
   have hq':=hk i x hx q hq
   obtain⟨t',ht'⟩:=Q00 (l:=lts) (i:=q.toNat) (by rw[h.len];omega)
   simp only[Function.comp,h.getD ht']
   exact h.count hk k n q.toNat t' (by omega) ht'
  rw[e1,e2]
  push_cast;rfl
theorem Q9h(k:Nat):∀lts:List LTr,(((keys (lts.flatMap ownO)).count k:Nat):Int)=(lts.map fun t=>(((keys (ownO t)).count k:Nat):Int)).sum
 |[]=>by simp[keys]
 |t::l=>by
  have:=Q9h k l
  simp only[keys]at this
  simp only[List.flatMap_cons,keys,List.map_append,List.count_append,List.map_cons,List.sum_cons,←this]
  push_cast;rfl
theorem LinkL.nodup(h:LinkL e lts B)(ht:IsTree e)(hn:(keys (lts.flatMap ownO)).Nodup){t:LTr}(hr:lts[e.length - 1]?=some t):(keys (objs t)).Nodup:=by
 rw[List.nodup_iff_count]
 intro k
 have h1:=h.count ht.k k _ _ t (Nat.lt_succ_self _) hr
 have h2:=Q38 (ownC lts k) (Qj1 ht)
 have h3:grow (ixE e)=Q0t (ixE e) (e.length - 1):=by unfold grow Q0t;rw[Qah]
 rw[h3,h1]at h2
 have h4:((labs (ixE e)).map (ownC lts k))=lts.map fun t=>(((keys (ownO t)).count k:Nat):Int):=by
  have e1:(labs (ixE e)).map (ownC lts k)=((labs (ixE e)).map (·.n)).map fun n:Int=>(((keys (ownO (lts.getD n.toNat default))).count k:Nat):Int):=by
   rw[List.map_map];rfl
  rw[e1,labs_n,ixE_n,List.map_map]
  apply List.ext_getElem?
  intro i
  by_cases hi:i < e.length
  ·obtain⟨t',ht'⟩:=Q00 (l:=lts) (i:=i) (by rw[h.len];exact hi)
   simp only[List.getElem?_map,List.getElem?_range hi,Option.map_some,Function.comp,Int.toNat_natCast,h.getD ht',ht']
  ·rw[List.getElem?_eq_none (by simp;omega),List.getElem?_eq_none (by simp[h.len];omega)]
 rw[h4,←Q9h]at h2
 have h5:=List.nodup_iff_count.1 hn k
 omega
theorem LinkL.ok(h:LinkL e lts)(hk:Q0h e)(hs:∀x∈e,x.binds.length<=1048576/\x.kids.length<=1048576/\x.alts.length<=1048576/\∀a∈x.alts,a.binds.length<=1048576):∀(n i:Nat)(t:LTr),i < n->lts[i]?=some t->okL t
 |0,i,t,hi,_=>by omega
 |n+1,i,t,hi,ht=>by
  have hil:i < e.length:=by rw[←h.len];exact (List.getElem?_eq_some_iff.1 ht).1
  obtain⟨x,hx⟩:=Q00 hil
  obtain⟨id,nb,a,h1,h2,h3,h4⟩:=h.at_ i x hx
  obtain⟨s1,s2,s3,s4⟩:=hs x (List.mem_of_getElem? hx)
  rw[ht]at h1
  cases h1
  refine⟨fun _=>h3,s1,by simpa using s2,by have:=congrArg List.length h2;simp at this;omega,fun y hy=>⟨h4 y hy,?_⟩,Qe4.2 fun u hu=>?_⟩
  ·exact s4 y.er (by rw[←h2];exact List.mem_map_of_mem hy)
  ·obtain⟨q,hq,rfl⟩:=List.mem_map.1 hu
   have hq':=hk i x hx q hq
   obtain⟨t',ht'⟩:=Q00 (l:=lts) (i:=q.toNat) (by rw[h.len];omega)
   rw[h.getD ht']
   exact h.ok hk hs n q.toNat t' (by omega) ht'
end
variable {Γ:List (Nat×List AC)}
def Q1q (ts:List LTr)(n:Nat):List AC:=ts.map (fun t=>.ptr (.o t.id) 0)++List.replicate (n - ts.length) (.lit (.pointer none))
theorem Qfd(n:Nat):Q1q [] n=List.replicate n (.lit (.pointer none)):=by simp[Q1q]
theorem Qfe{ts:List LTr}{n:Nat}(h:ts.length<=n):(Q1q ts n).length=n:=by simp[Q1q];omega
theorem Q5p{ts:List LTr}{n k:Nat}{t:LTr}(h:ts[k]?=some t):(Q1q ts n)[k]?=some (.ptr (.o t.id) 0):=by
 have hk:=(List.getElem?_eq_some_iff.1 h).1
 unfold Q1q
 rw[List.getElem?_append_left (by simpa using hk)]
 simp[h]
theorem Qfc{ts:List LTr}{n:Nat}(h:ts.length < n)(t:LTr):(Q1q ts n).set ts.length (.ptr (.o t.id) 0)=Q1q (ts++[t]) n:=by
 unfold Q1q
 rw[List.set_append_right _ _ (by simp)]
 simp only[List.length_map,Nat.sub_self,List.map_append,List.map_cons,List.map_nil,List.append_assoc,List.length_append,List.length_singleton]
 congr 1
 rw[show n - ts.length=(n - (ts.length+1))+1 by omega,List.replicate_succ]
 rfl
theorem Q9a(p:Abs.Id->Prop)(hp:∀k,p (.o k))(ts:List LTr)(n:Nat):idsL p (Q1q ts n):=by
 refine Q5a ?_ (Q6c p _ _)
 induction ts with
 |nil=>trivial
 |cons t ts ih=>exact⟨hp _,ih⟩
@[simp] theorem ids_nodesL_l (k:Nat) (ts:List LTr) (n:Nat):idsL (inL k) (Q1q ts n):=Q9a _ (fun _=>trivial) ts n
@[simp] theorem Qby (ts:List LTr) (n:Nat):idsL isO (Q1q ts n):=Q9a _ (fun _=>trivial) ts n
theorem Qgu(l:List LTr)(t:LTr):kC (l++[t])=kC l++[[.ptr (.o t.id) 0]]:=by simp[kC]
def kidsL (ts:List LTr)(ks:List Int):List LTr:=ks.map fun k=>ts.getD k.toNat default
theorem Qfj{ts:List LTr}{ks:List Int}{i:Nat}{k:Int}(h:ks[i]?=some k):kidsL ts (ks.take (i+1))=kidsL ts (ks.take i)++[ts.getD k.toNat default]:=by
 simp[kidsL,List.take_add_one,h]
@[simp] theorem ids_kC_l (k:Nat) (ts:List LTr):idsS (inL k) (kC ts):=Qh4 _ (fun _=>trivial) ts
@[simp] theorem Qj4 (ts:List LTr):idsS isO (kC ts):=Qh4 _ (fun _=>trivial) ts
@[simp] theorem ids_lAlts_l (k:Nat) (l:List LAlt):idsS (inL k) (l.map lAlt):=Q7p _ (fun _=>trivial) l
@[simp] theorem Qd4 (l:List LAlt):idsS isO (l.map lAlt):=Q7p _ (fun _=>trivial) l
@[simp] theorem ids_bC_l (k:Nat) (nb:Nb) (l:List Int):(bC nb l).ids (inL k):=Qeo _ (fun _=>trivial) nb l
@[simp] theorem ids_bC_o (nb:Nb) (l:List Int):(bC nb l).ids isO:=Qeo _ (fun _=>trivial) nb l
@[simp] theorem ren_kC (ρ:Nat->Nat) (l:List LTr):renS ρ (kC l)=kC l:=Q1h ρ _ (Qj4 l)
@[simp] theorem ren_lAlts (ρ:Nat->Nat) (l:List LAlt):renS ρ (l.map lAlt)=l.map lAlt:=Q1h ρ _ (Qd4 l)
@[simp] theorem ren_bC (ρ:Nat->Nat) (nb:Nb) (l:List Int):(bC nb l).ren ρ=bC nb l:=by cases nb <;> simp[bC,AC.ren,Abs.Id.ren]
theorem NewO.add{ou:Outer}{k:Nat}{o:AObj}(hk:∀m,k<=m->ou m=none)(hou:OuOk ou)(ho:o.ids isO):NewO ou (ouAdd ou k [o]) [(k,o)]:=by
 refine⟨fun p hp=>?_,fun j hj=>?_,fun m hm=>?_,Q2r hou fun q hq=>by simp at hq;subst hq;exact ho,by simp[keys]⟩
 ·simp at hp;subst hp
  exact Q0f 0
 ·simp[keys]at hj;subst hj;exact hk _ (Nat.le_refl _)
 ·simp[keys]at hm
  rcases Nat.lt_or_ge m k with h1|h1
  ·exact Q26 h1
  ·obtain⟨p,rfl⟩:∃p,m=k+p:=⟨m - k,by omega⟩
   rw[Q0f,hk _ h1]
   cases p with
   |zero=>simp at hm
   |succ p=>simp
end Go.Proofs.YthboaankaaeemaaDoor
namespace Go.CoreX
end Go.CoreX
namespace Go.Proofs.YthboaankaaeemaaDoor
open Go Go.Abs Go.CoreX
variable {Γ:List (Nat×List AC)}
end Go.Proofs.YthboaankaaeemaaDoor
namespace Go.CoreX
-- What holds of all nodes.
mutual
def allT (p:Lab->Prop):Tr->Prop
 |.mk o n b k a=>p ⟨o,n,b,k.map Tr.op,a⟩/\allTs p k
def allTs (p:Lab->Prop):List Tr->Prop
 |[]=>True
 |t::l=>allT p t/\allTs p l
end
theorem Q3s{p:Lab->Prop}:∀{l:List Tr},allTs p l↔∀t∈l,allT p t
 |[]=>by simp[allTs]
 |t::l=>by simp[allTs,Q3s (l:=l)]
theorem Qhq{e:List Ex}(hk:Q0h e){p:Lab->Prop}(h:∀x∈e,p (labE e x)):∀(n i:Nat),i < n->i < e.length->allT p (Q0t e i)
 |0,i,hi,_=>by omega
 |n+1,i,hi,hl=>by
  obtain⟨x,hx⟩:∃x,e[i]?=some x:=⟨e[i],List.getElem?_eq_getElem hl⟩
  rw[Q2z hk hx]
  refine⟨?_,Q3s.2 fun t ht=>?_⟩
  ·have:=h x (List.mem_of_getElem? hx)
   simp only[labE]at this
   simp only[List.map_map]
   exact this
  ·obtain⟨q,hq,rfl⟩:=List.mem_map.1 ht
   have:=hk i x hx q hq
   exact Qhq hk h n q.toNat (by omega) (by omega)
theorem Qcn{e:List Ex}(h:IsTree e){p:Lab->Prop}(hp:∀x∈e,p (labE e x)):allT p (grow e):=by
 have:=List.length_pos_iff.2 h.ne
 exact Qhq h.k hp _ (e.length - 1) (Nat.lt_succ_self _) (by omega)
end Go.CoreX
namespace Go.CoreX
structure ShN (o n:Int)(b:List Int)(k:Nat)(a:List Alt):Prop where
 sh:∃ops:List Int,ops.length=k/\shape ⟨o,n,b,ops,a⟩=true
section
variable {o n:Int}{b:List Int}{k:Nat}{a:List Alt}
theorem ShN.want(h:ShN o n b k a)(h7:¬(o=7∨o=13)):∃w:Int×Int×Bool,(∃ops:List Int,ops.length=k/\wants ⟨o,n,b,ops,a⟩=some w)/\(k:Int)=w.1/\(b.length:Int)=w.2.1/\a=[]:=by
 obtain⟨ops,hl,h⟩:=h.sh
 unfold shape at h
 rw[if_neg h7]at h
 split at h
 ·cases h
 ·rename_i kk bb u hw
  simp only[Bool.and_eq_true,beq_iff_eq,List.length_eq_zero_iff]at h
  exact⟨_,⟨ops,hl,hw⟩,by rw[←hl];exact h.1.1.1,h.1.1.2,h.1.2⟩
theorem ShN.app(h:ShN 3 n b k a):1<=k/\b=[]/\a=[]:=by
 obtain⟨w,⟨ops,hl,hw⟩,h1,h2,h3⟩:=h.want (by omega)
 cases hw
 refine⟨?_,List.length_eq_zero_iff.1 (by simp at h2;simp[h2]),h3⟩
 simp only at h1;split at h1 <;> omega
theorem ShN.one(h:ShN o n b k a)(ho:o=10∨o=12∨o=16):k=1/\b=[]/\a=[]:=by
 obtain⟨w,⟨ops,hl,hw⟩,h1,h2,h3⟩:=h.want (by omega)
 rcases ho with rfl|rfl|rfl <;> (cases hw;exact⟨by simp at h1;omega,List.length_eq_zero_iff.1 (by simp at h2;simp[h2]),h3⟩)
end
end Go.CoreX
namespace Go.CoreX
def cntB (k:Int)(l:Lab):Int:=((Q04 l.op l.binds l.alts).count k:Nat)
-- Names that a tree does not bind keep their new names.
mutual
def bndT:Tr->List Int
 |.mk o _ b k a=>Q04 o b a++bndTs k
def bndTs:List Tr->List Int
 |[]=>[]
 |t::l=>bndT t++bndTs l
end
end Go.CoreX
namespace Go.CoreX
def tl (a:Alt):Int×Nat:=(a.tag,a.binds.length)
end Go.CoreX
namespace Go.CoreX
def pLab (l:Lab):Prop:=∀(e:List Ex)(x:Ex),(∀k∈x.kids,0<=k/\k < (e.length:Int))->labE e x=l->Q0k false e x=0
theorem sum0{α:Type}{f:α->Int}:∀{l:List α},(∀x∈l,0<=f x)->(l.map f).sum=0->∀x∈l,f x=0
 | [], _, _, x, hx => by simp at hx
 |y::l,h,hs,x,hx=>by
  have h1:=h y (by simp)
  have h2:∀z∈l,0<=f z:=fun z hz=>h z (by simp[hz])
  have h3:0<=(l.map f).sum:=by
   clear h h1 hs hx
   induction l with
   |nil=>simp
   |cons z l ih=>
    have:=h2 z (by simp)
    have:=ih fun y hy=>h2 y (by simp[hy])
    simp only[List.map_cons,List.sum_cons];omega
  simp only[List.map_cons,List.sum_cons]at hs
  rcases List.mem_cons.1 hx with rfl|hx
  ·omega
  ·exact sum0 h2 (by omega) x hx
open Classical in
mutual
theorem Qg1{p:Lab->Prop}:∀t:Tr,allT p t->sumT (fun l=>if p l then 0 else 1) t=0
 |.mk o n b k a,h=>by
  simp only[sumT,Qds k h.2]
  rw[if_pos h.1];rfl
theorem Qds{p:Lab->Prop}:∀l:List Tr,allTs p l->sumTs (fun l=>if p l then 0 else 1) l=0
 |[],_=>rfl
 |t::l,h=>by simp only[sumTs,Qg1 t h.1,Qds l h.2];rfl
end
open Classical in
theorem Qcm{p:Lab->Prop}{g:List Ex}(h:IsTree g)(ha:allT p (grow g)):∀l∈labs g,p l:=by
 have h1:=Q38 (fun l=>if p l then (0:Int)else 1) h
 rw[Qg1 _ ha]at h1
 intro l hl
 have:=sum0 (fun x _=>by split <;> omega) h1 l hl
 split at this
 ·assumption
 ·cases this
theorem Q35{e:List Ex}(h:check e=0):Q1f e=0/\(∀x∈e,Q0k false e x=0)/\(Q07 e).Nodup/\occT [] (grow e)=[]:=by
 unfold check body at h
 by_cases h1:Q1f e=0
 ·rw [if_neg (by simpa using h1)] at h
  by_cases h2:Q1d (Q0k false e) e=0
  ·rw[if_neg (by simpa using h2)]at h
   by_cases h3:Q4b ([]++Q07 e)=true
   ·rw[if_pos h3]at h;cases h
   ·rw[if_neg h3]at h
    have h3':=(Q1j _).1 (by simpa using h3)
    refine⟨h1,(Q29 _ _).1 h2,by simpa using h3',?_⟩
    by_cases h4:(Q0r (grow e)).all (fun n=>([]:List Int).contains n)=true
    ·have h5:Q0r (grow e)=[]:=by
      cases hf:Q0r (grow e) with
      |nil=>rfl
      |cons n l=>rw[hf]at h4;simp at h4
     unfold Q0r at h5
     cases ho:occT [] (grow e) with
     |nil=>rfl
     |cons n l=>
      have:=(Q52 n (n::l)).2 (by simp)
      rw[←ho,h5]at this
      simp at this
    ·rw[if_neg h4]at h;cases h
  ·rw[if_pos (by simpa using h2)]at h;exact absurd h h2
 ·rw[if_pos h1]at h;exact absurd h h1
theorem Qje{e:List Ex}(h1:Q1f e=0)(h2:∀x∈e,Q0k false e x=0)(h3:(Q07 e).Nodup)(h4:occT [] (grow e)=[]):check e=0:=by
 unfold check body
 rw[if_neg (by simpa using h1),if_neg (by simpa using (Q29 _ _).2 h2),if_neg (by rw[(Q1j _).2 (by simpa using h3)];simp),if_pos]
 unfold Q0r
 rw[h4];rfl
mutual
theorem Q84(k:Int):∀t:Tr,(((bndT t).count k:Nat):Int)=sumT (cntB k) t
 |.mk o n b ks a=>by
  simp only[bndT,sumT,cntB,List.count_append,←Q9p k ks];push_cast;rfl
theorem Q9p(k:Int):∀l:List Tr,(((bndTs l).count k:Nat):Int)=sumTs (cntB k) l
 |[]=>rfl
 |t::l=>by simp only[bndTs,sumTs,List.count_append,←Q84 k t,←Q9p k l];push_cast;rfl
end
theorem Qhp{e:List Ex}(h:check e=0):(bndT (grow e)).Nodup:=by
 obtain⟨_,_,h3,_⟩:=Q35 h
 have t1:=Q12 h
 rw[List.nodup_iff_count]at h3 ⊢
 intro k
 have h4:=h3 k
 have h5:=Q84 k (grow e)
 rw[←Q38 _ t1]at h5
 have h6:(((Q07 e).count k:Nat):Int)=((labs e).map (cntB k)).sum:=by rw[Q2b,Q63];rfl
 omega
theorem Q9o{e:List Ex}(h:check e=0):allT pLab (grow e):=by
 obtain⟨_,h2,_,_⟩:=Q35 h
 have t1:=Q12 h
 refine Qcn t1 fun x hx g y hy hl=>?_
 rw[Q6a hy (Q7m t1.k hx) hl]
 exact h2 x hx
end Go.CoreX
namespace Go.Proofs.YthboaankaaeemaaDoor
open Go Go.Abs Go.CoreX
variable {Γ:List (Nat×List AC)}
end Go.Proofs.YthboaankaaeemaaDoor
namespace Go.CoreX
structure pOk (l:Lab):Prop where
 b:l.binds.length<=1048576
 k:l.ops.length<=1048576
 a:l.alts.length<=1048576
 ab:∀x∈l.alts,x.binds.length<=1048576
 s:l.binds.length+(l.alts.flatMap (·.binds)).length<=4194304
-- Two lists in order, with the same members, are one list.
end Go.CoreX
namespace Go.Proofs.YthboaankaaeemaaDoor
open Go Go.Abs Go.CoreX
theorem Qfa{g:List Ex}(hl:g.length<=1048576)(h:∀l∈labs g,pOk l):okB g:=by
 refine⟨⟨hl,fun x hx=>?_⟩,fun x hx=>?_⟩
 ·have:=h _ (List.mem_map_of_mem (f:=labE g) hx)
  exact⟨this.b,by simpa[labE]using this.k,this.a,this.ab⟩
 ·exact (h _ (List.mem_map_of_mem (f:=labE g) hx)).s
end Go.Proofs.YthboaankaaeemaaDoor
namespace Go.CoreX
end Go.CoreX
namespace Go.Proofs.YthboaankaaeemaaDoor
open Go Go.Abs Go.CoreX
theorem Q64{H:Type}:∀l:List (DataW H),Rows.uptoBulkAll l=Q37 Rows.uptoBulk l
 |[]=>rfl
 |d::l=>by simp only[Rows.uptoBulkAll,Q37,List.map_cons,List.sum_cons]at *;rw[Q64 l];rfl
theorem Qez{H:Type}(l:List (DataW H)):Q37 Rows.uptoBulk l+1<=Rows.uptoBulk (.agg l):=by
 simp only[Rows.uptoBulk,Q64];omega
theorem Qfq{H:Type}(l r:List (DataW H)):Q37 Rows.uptoBulk l+1<=Rows.uptoBulk (.slice l r):=by
 simp only[Rows.uptoBulk,Q64];omega
theorem Qjg{H:Type}:1<=Rows.uptoBulk (DataW.nil:DataW H):=by simp[Rows.uptoBulk]
section
variable {H:Type}{enc:TypeId×Value->H}{w:World}
abbrev I64:={i:Int // IntKind.i64.min<=i/\i<=IntKind.i64.max}
theorem Q55(n:Nat):Opens enc Tryd.prog w Rows.uptoBulk 3 n (fun i:I64=>[int i.1]) (fun _=>1):=by
 intro cs x h
 obtain⟨i,rfl,rfl,hw⟩:=DataW.trod_int Tryd.underlying3 h
 refine⟨⟨i,?_⟩,⟨_,_,rfl,⟨rfl,rfl⟩,rfl⟩,by simp[Rows.uptoBulk]⟩
 simpa[Lit.wf]using hw
theorem Q4s{t e:TypeId}{s:Nat}(ht:Tryd.prog.underlying t=some (.slice e))(hs:Tryd.prog.cellsOf e=s)(h0:0 < s){α:Type}{c:α->List AC}{wt:α->Nat}(n:Nat)(he:∀m,m < n->Opens enc Tryd.prog w Rows.uptoBulk e m c wt):
  Opens enc Tryd.prog w Rows.uptoBulk t n (fun l:List α=>[.sl s (l.map c)]) (fun l=>wtAll wt l+1):=by
 cases n with
 |zero=>exact Opens.zero
 |succ n=>exact Opens.slice Qfq Qjg ht hs h0 (he n (by omega))
theorem wt_one{α:Type}(l:List α):wtAll (fun _=>1) l=l.length:=by
 unfold wtAll
 induction l with
 |nil=>rfl
 |cons a l ih=>simp only[List.map_cons,List.sum_cons,List.length_cons,ih];omega
theorem Q5o(n:Nat):Opens enc Tryd.prog w Rows.uptoBulk 30 n (fun l:List Int=>[.sl 1 (l.map cI)]) (fun l=>l.length+1):=by
 refine Opens.as (Q4s Tryd.underlying30 (s:=1) (by kernel_rfl) (by omega) n (fun m _=>Q55 m)) fun l=>⟨l.map (·.1),?_,?_⟩
 ·simp only[List.map_map];rfl
 ·rw[wt_one];simp
def bAlt (a:Alt):Nat:=a.binds.length+3
def bAlts (l:List Alt):Nat:=(l.map bAlt).sum
def bEx (x:Ex):Nat:=x.binds.length+x.kids.length+bAlts x.alts+6
def bExs (l:List Ex):Nat:=(l.map bEx).sum
theorem Qim(n:Nat):Opens enc Tryd.prog w Rows.uptoBulk 135 n cAlt bAlt:=by
 cases n with
 |zero=>exact Opens.zero
 |succ n=>
  refine Opens.as (Opens.struct Qez Tryd.underlying135 (.cons rfl (by kernel_rfl) (Q55 n) (fun _=>rfl) (.cons rfl (by kernel_rfl) (Q5o n) (fun _=>rfl) (.nil _))) (fun _=>(show (2:Nat)=_ by kernel_rfl))) ?_
  rintro⟨i,l,_⟩
  exact⟨⟨i.1,l⟩,rfl,by show l.length+3<=1+(l.length+1+0)+1;omega⟩
theorem opensEx(n:Nat):Opens enc Tryd.prog w Rows.uptoBulk 69 n cEx bEx:=by
 cases n with
 |zero=>exact Opens.zero
 |succ n=>
  have ha:=Q4s (enc:=enc) (w:=w) (t:=67) Tryd.underlying67 (s:=2) (by kernel_rfl) (by omega) n (fun m _=>Qim m)
  refine Opens.as (Opens.struct Qez Tryd.underlying69 (.cons rfl (by kernel_rfl) (Q55 n) (fun _=>rfl) (.cons rfl (by kernel_rfl) (Q55 n) (fun _=>rfl) (.cons rfl (by kernel_rfl) (Q5o n) (fun _=>rfl) (.cons rfl (by kernel_rfl) (Q5o n) (fun _=>rfl) (.cons rfl (by kernel_rfl) ha (fun _=>rfl) (.nil _)))))) (fun _=>(show (5:Nat)=_ by kernel_rfl))) ?_
  rintro⟨i,j,b,k,l,_⟩
  refine⟨⟨i.1,j.1,b,k,l⟩,rfl,?_⟩
  show b.length+k.length+bAlts l+6<=1+(1+(b.length+1+(k.length+1+(wtAll bAlt l+1+0))))+1
  have:wtAll bAlt l=bAlts l:=rfl
  omega
theorem Qil(n:Nat):Opens enc Tryd.prog w Rows.uptoBulk 22 n (fun l:List Ex=>[.sl 5 (l.map cEx)]) (fun l=>bExs l+1):=
 Q4s Tryd.underlying22 (s:=5) (by kernel_rfl) (by omega) n (fun m _=>opensEx m)
theorem Qih{t e:TypeId}{base:Nat}{r:Reach}{W:World}{v:Value}{C:Ctx}{c:AC}(ht:Tryd.prog.underlying t=some (.slice e))(h:Value.okWide Tryd.prog W r base t v)(hr:RV W C [c] v.cells.toList):RF W C (.one c) v:=by
 obtain⟨a,len,cap,rfl⟩:=WideShapes.okWide_slice ht h
 obtain⟨u,us,he,h1,h2⟩:=hr
 simp[Value.cells]at he
 obtain⟨rfl,rfl⟩:=he
 exact h1
end
theorem Qcr{α:Type}{f:α->Nat}:∀{l:List α}{a:α},a∈l->f a<=(l.map f).sum
 |b::l,a,h=>by
  simp only[List.map_cons,List.sum_cons]
  rcases List.mem_cons.1 h with rfl|h
  ·omega
  ·have:=Qcr (f:=f) h;omega
theorem Qcs{α:Type}{f:α->Nat}(hf:∀a,1<=f a):∀l:List α,l.length<=(l.map f).sum
 |[]=>by simp
 |b::l=>by
  have h1:=hf b
  have h2:=Qcs hf l
  simp only[List.map_cons,List.sum_cons,List.length_cons];omega
theorem Q9r:∀l:List Alt,(l.flatMap (·.binds)).length<=bAlts l
 |[]=>by simp[bAlts]
 |a::l=>by
  have:=Q9r l
  simp only[bAlts,bAlt,List.flatMap_cons,List.length_append,List.map_cons,List.sum_cons]at *
  omega
theorem okB_of{e:List Ex}(h:bExs e<=1048576):okB e:=by
 have h1:=Qcs (f:=bEx) (fun x=>by simp only[bEx];omega) e
 have hx:∀x∈e,bEx x<=1048576:=fun x hx=>by
  have h2:bEx x<=bExs e:=Qcr hx
  omega
 have h1':e.length<=bExs e:=h1
 refine⟨⟨by omega,fun x hx1=>?_⟩,fun x hx1=>?_⟩
 ·have h2:=hx x hx1
  simp only[bEx]at h2
  have h3:=Qcs (f:=bAlt) (fun a=>by simp only[bAlt];omega) x.alts
  have h3':x.alts.length<=bAlts x.alts:=h3
  refine⟨by omega,by omega,by omega,fun a ha=>?_⟩
  have h4:bAlt a<=bAlts x.alts:=Qcr ha
  simp only[bAlt]at h4
  omega
 ·have h2:=hx x hx1
  simp only[bEx]at h2
  have h3:=Q9r x.alts
  omega
theorem Qdh{W:World}(h:laidMetH Tryd.prog [("provenance/core.arity",Rows.laid_provenance_core_arity)] W):∀g cs,(g,cs)∈Γc->RG W (ctx0 W) cs g:=by
 have ht:Lib.TabIs Tryd.prog W "provenance/core.arity" .i64 [2,2,2,2,2,2,2,1,2,1,2,3]:=
  Lib.tabIs_of_head (rest:=[]) (g:=1) (t:=171) (n:=12) (by kernel_rfl) (by kernel_rfl) (by kernel_rfl) Tryd.underlying3 (by kernel_rfl) (by kernel_rfl) h
 have hg:Tryd.prog.globalNamed "provenance/core.arity" = some 1:=by kernel_rfl
 intro g cs hm
 simp[Γc]at hm
 obtain⟨rfl,rfl⟩:=hm
 exact RG.ofVar hg ht rfl
end Go.Proofs.YthboaankaaeemaaDoor
namespace Go.CoreX
mutual
def mxT:Tr->Int
 |.mk o n b k a=>mxTs ((Q04 o b a).foldl max (-1)) k
def mxTs (m:Int):List Tr->Int
 |[]=>m
 |t::l=>mxTs (max m (mxT t)) l
end
theorem Qgn:∀(l:List Tr)(m:Int),mxTs m l=(l.map mxT).foldl max m
 |[],_=>rfl
 |t::l,m=>by simp only[mxTs,List.map_cons,List.foldl_cons];exact Qgn l _
theorem maxX_if(a b:Int):max a b=if b > a then b else a:=by rw[Int.max_def];split <;> split <;> omega
def mxLX (c:Int)(l:Lab):Prop:=∀n∈Q04 l.op l.binds l.alts,n<=c
theorem Qc5(c:Int):∀(l:List Int)(m:Int),m<=c->(∀n∈l,n<=c)->l.foldl max m<=c
 |[],m,h,_=>h
 |x::l,m,h,hl=>by
  simp only[List.foldl_cons]
  have:=hl x (by simp)
  exact Qc5 c l _ (by omega) fun n hn=>hl n (by simp[hn])
mutual
theorem mxT_le(c:Int)(hc:-1<=c):∀t:Tr,Go.CoreX.allT (mxLX c) t->mxT t<=c
 |.mk o n b k a,h=>by
  simp only[mxT]
  exact Qgl c hc k _ (Qc5 c _ _ hc h.1) h.2
theorem Qgl(c:Int)(hc:-1<=c):∀(l:List Tr)(m:Int),m<=c->Go.CoreX.allTs (mxLX c) l->mxTs m l<=c
 |[],m,h,_=>h
 |t::l,m,h,hl=>by
  simp only[mxTs]
  have:=mxT_le c hc t hl.1
  exact Qgl c hc l _ (by omega) hl.2
end
theorem Qci{e:List Ex}{x:Ex}(h:Q0k false e x=0):∀b∈Q0n x,b<=1048575:=by
 have hr:ranges x=0:=by
  unfold Q0k at h
  split at h
  ·cases h
  ·unfold Q1r at h
   split at h
   ·cases h
   ·split at h
    ·rename_i hr;exact absurd h hr
    ·rename_i hr;simpa using hr
 have hx:x.binds.all Q2h=true/\x.alts.all (Q2w x.op)=true:=by
  unfold ranges at hr
  split at hr
  ·cases hr
  split at hr
  ·cases hr
  rename_i h1
  split at hr
  ·cases hr
  rename_i h2
  exact⟨by simpa using h1,by simpa using h2⟩
 have ok:∀n,Q2h n=true->n<=1048575:=fun n hn=>by
  simp[Q2h,between]at hn;omega
 intro b hb
 unfold Q0n Q04 at hb
 rcases List.mem_append.1 hb with hb|hb
 ·split at hb
  ·exact ok b (List.all_eq_true.1 hx.1 b hb)
  ·cases hb
 ·obtain⟨a,ha,hba⟩:=List.mem_flatMap.1 hb
  have:=List.all_eq_true.1 hx.2 a ha
  unfold Q2w at this
  exact ok b (List.all_eq_true.1 (Bool.and_eq_true_iff.1 this).2 b hba)
theorem Qhm{e:List Ex}(h:check e=0):allT (mxLX 1048575) (grow e):=by
 obtain⟨_,p2,_,_⟩:=Q35 h
 exact Qcn (Q12 h) fun x hx=>Qci (p2 x hx)
end Go.CoreX
namespace Go.Proofs.YthboaankaaeemaaDoor
open Go Go.Abs Go.CoreX
variable {Γ:List (Nat×List AC)}
theorem Q9g{l:List Int}{i:Nat}{n m:Int}(h:l[i]?=some n):(l.take (i+1)).foldl max m=if n > (l.take i).foldl max m then n else (l.take i).foldl max m:=by
 rw[Q0j h,List.foldl_append];exact maxX_if _ _
def MxOk (Γ:List (Nat×List AC))(t:Tr):Prop:=APure Tryd.prog Γ 96 [.one (.box (cTr t))] (.one (int (mxT t)))
theorem Qf2(hΓ:∀g cs,(g,cs)∈Γ->idsL isO cs):∀t:Tr,okT t->MxOk Γ t
 |.mk o n b ks a,hok=>by
  have ih:∀t∈ks,MxOk Γ t:=fun t ht=>Qf2 hΓ t (Q1l.1 hok.2.2.2.2 t ht)
  have hk:ks.length<=1048576:=hok.2.1
  have hbl:Q3j (.mk o n b ks a)<=4194304:=by
   have h1:=hok.1
   have h2:=hok.2.2.2.1.2
   unfold Q3j
   simp only[Tr.binds,Tr.alts]
   omega
  have hB:=Q3t hΓ (.mk o n b ks a) hbl hok.2.2.1
  have hbn:(Q04 o b a).length<=4194304:=by
   unfold Q3j at hbl
   simp only[Tr.binds,Tr.alts]at hbl
   unfold Q04
   rw[List.length_append]
   split
   ·exact hbl
   ·simp only[List.length_nil];omega
  have hm:mxT (.mk o n b ks a)=(ks.map mxT).foldl max ((Q04 o b a).foldl max (-1)):=by simp only[mxT,Qgn]
  intro ou
  rw[hm]
  clear hm
  obtain⟨bn,hbe⟩:∃bn,bn=Q04 o b a:=⟨_,rfl⟩
  rw[show Q04 (Tr.mk o n b ks a).op (Tr.mk o n b ks a).binds (Tr.mk o n b ks a).alts=bn from hbe.symm]at hB
  rw[←hbe]at hbn ⊢
  clear hbe hbl
  refine AFn.walk 34 tabOk Tryd.func96 rfl (by kernel_rfl) rfl rfl fun hou=>?_
  refine zA ?_
  refine zca hΓ hB hou ?_
  refine zA ?_
  refine ACode.loopR hΓ (α:=Nat) (fun i=>[(11,.one (int i)),(10,.one (int (bn.map cI).length)),(9,.one (.sl 1 (bn.map cI))),(3,.one (int ((bn.take i).foldl max (-1)))),(0,.one (.box (cTr (.mk o n b ks a))))])
   (fun i=>⟨0,[],ou⟩) (fun m i=>i<=bn.length/\m=bn.length - i) (a0:=0) (ρ:=id) ⟨by omega,rfl⟩ (LessR.of rfl zFS (by simp) zLO rfl rfl hou) fun m i hi=>?_
  obtain⟨hil,rfl⟩:=hi
  refine zA ?_
  refine ACode.cond rfl (fun hb3=>?_) (fun hb3=>?_)
  ·have hlt2:i < bn.length:=by simpa using hb3
   obtain⟨q,hn⟩:=Q00 hlt2
   have hsm:=Q9g (m:=-1) hn
   refine zA ?_
   refine zS (zIA rfl rfl rfl (by omega) (Q05 hn)) ?_
   refine zM ?_
   refine cInv ⟨bn.length - (i+1),i+1,id,by omega,⟨by omega,rfl⟩,?_⟩
   simp only[hsm]
   exact LessR.of rfl zFS (by simp) zLO rfl rfl hou
  have hlt:i=bn.length:=by simp at hb3;omega
  subst hlt
  rw[List.take_length]
  generalize bn.foldl max (-1)=m0
  refine zA ?_
  refine ACode.loopR hΓ (α:=Nat) (fun i=>[(24,.one (int i)),(23,.one (int (Q0u ks).length)),(22,.one (.sl 1 (Q0u ks))),(3,.one (int (((ks.map mxT).take i).foldl max m0)))])
   (fun i=>⟨0,[],ou⟩) (fun m i=>i<=ks.length/\m=ks.length - i) (a0:=0) (ρ:=id) ⟨by omega,rfl⟩ (LessR.of rfl zFS (by simp) zLO rfl rfl hou) fun m i hi=>?_
  obtain⟨hil,rfl⟩:=hi
  refine zA ?_
  refine ACode.cond rfl (fun hb3=>?_) (fun hb3=>?_)
  ·have hlt2:i < ks.length:=by simpa using hb3
   obtain⟨t,ht⟩:=Q00 hlt2
   have hsm:=Q9g (l:=ks.map mxT) (n:=mxT t) (m:=m0) (i:=i) (by simp[ht])
   refine zA ?_
   refine zS (zIA rfl rfl rfl (by omega) (Q22 ht)) ?_
   refine zA ?_
   refine zca hΓ (ih t (List.mem_of_getElem? ht)) hou ?_
   refine zM ?_
   refine cInv ⟨ks.length - (i+1),i+1,id,by omega,⟨by omega,rfl⟩,?_⟩
   simp only[hsm]
   exact LessR.of rfl zFS (by simp) zLO rfl rfl hou
  have hlt:i=ks.length:=by simp[Q34]at hb3;omega
  subst hlt
  rw[show (ks.map mxT).take ks.length=ks.map mxT from List.take_of_length_le (by simp)]
  refine zA ?_
  exact APure.fin rfl (WkF.ofEq rfl) (by simp) hou rfl
structure UpdL (ou:Outer)(L:List (Nat×AObj))(ou':Outer)(L':List (Nat×AObj)):Prop where
 own:Owns ou' L'
 nd:(keys L').Nodup
 new:∀k∈keys L',k∈keys L∨ou k=none
 old:∀k,k∉keys L->ou k≠none->ou' k=ou k
 ok:OuOk ou'
theorem UpdL.refl{ou:Outer}{L:List (Nat×AObj)}(h:Owns ou L)(hn:(keys L).Nodup)(ho:OuOk ou):UpdL ou L ou L:=⟨h,hn,fun k hk=>.inl hk,fun _ _ _=>rfl,ho⟩
theorem UpdL.trans{ou ou1 ou2:Outer}{L L1 L2:List (Nat×AObj)}(h:UpdL ou L ou1 L1)(k:UpdL ou1 L1 ou2 L2):UpdL ou L ou2 L2 where
 own:=k.own
 nd:=k.nd
 new:=fun j hj=>by
  rcases k.new j hj with h1|h1
  ·exact h.new j h1
  ·by_cases h2:j∈keys L
   ·exact .inl h2
   ·refine .inr (Decidable.byContradiction fun h3=>?_)
    rw[h.old j h2 h3]at h1
    exact h3 h1
 old:=fun j hj hn=>by
  have h1:=h.old j hj hn
  have h2:j∉keys L1:=fun h3=>(h.new j h3).elim hj hn
  rw[k.old j h2 (by rw[h1];exact hn),h1]
 ok:=k.ok
theorem Q0z(A B:List (Nat×AObj)):keys (A++B)=keys A++keys B:=by simp[keys]
theorem Qd0{ou:Outer}{L:List (Nat×AObj)}(h:Owns ou L){k:Nat}(hk:k∈keys L):ou k≠none:=by
 obtain⟨p,hp,rfl⟩:=List.mem_map.1 hk
 rw[h p hp];simp
theorem UpdL.part{ou ou':Outer}{A B B' C:List (Nat×AObj)}(h:UpdL ou B ou' B')(ho:Owns ou (A++B++C))(hn:(keys (A++B++C)).Nodup):UpdL ou (A++B++C) ou' (A++B'++C):=by
 rw[Q0z,Q0z]at hn
 obtain⟨hAB,hC,hABC⟩:=List.nodup_append.1 hn
 obtain⟨hA,hB,hdAB⟩:=List.nodup_append.1 hAB
 obtain⟨hoAB,hoC⟩:=Owns.app.1 ho
 obtain⟨hoA,hoB⟩:=Owns.app.1 hoAB
 have nA:∀k∈keys A,k∉keys B:=fun k h1 h2=>hdAB k h1 k h2 rfl
 have nC:∀k∈keys C,k∉keys B:=fun k h1 h2=>hABC k (List.mem_append.2 (.inr h2)) k h1 rfl
 have nA':∀k∈keys A,k∉keys B':=fun k h1 h2=>(h.new k h2).elim (nA k h1) (Qd0 hoA h1)
 have nC':∀k∈keys C,k∉keys B':=fun k h1 h2=>(h.new k h2).elim (nC k h1) (Qd0 hoC h1)
 have e:∀{D:List (Nat×AObj)},Owns ou D->(∀k∈keys D,k∉keys B)->Owns ou' D:=fun hD hd p hp=>by
  have hk:p.1∈keys _:=List.mem_map_of_mem hp
  rw[h.old p.1 (hd _ hk) (Qd0 hD hk)]
  exact hD p hp
 refine⟨Owns.app.2 ⟨Owns.app.2 ⟨e hoA nA,h.own⟩,e hoC nC⟩,?_,fun k hk=>?_,fun k hk hne=>?_,h.ok⟩
 ·rw[Q0z,Q0z]
  refine List.nodup_append.2 ⟨List.nodup_append.2 ⟨hA,h.nd,fun a ha b hb e=>?_⟩,hC,fun a ha b hb e=>?_⟩
  ·subst e;exact nA' a ha hb
  ·subst e
   rcases List.mem_append.1 ha with h1|h1
   ·exact hABC a (List.mem_append.2 (.inl h1)) a hb rfl
   ·exact nC' a hb h1
 ·rw[Q0z,Q0z]at hk ⊢
  simp only[List.mem_append]at hk ⊢
  rcases hk with (hk|hk)|hk
  ·exact .inl (.inl (.inl hk))
  ·exact (h.new k hk).elim (fun h=>.inl (.inl (.inr h))) .inr
  ·exact .inl (.inr hk)
 ·rw[Q0z,Q0z]at hk
  simp only[List.mem_append,not_or]at hk
  exact h.old k hk.1.2 hne
theorem UpdL.kid{ou ou':Outer}{i:Nat}{o n:Int}{nb:Nb}{b:List Int}{l r:List LTr}{t t':LTr}{a:List LAlt}(h:UpdL ou (objs t) ou' (objs t'))(hid:t'.id=t.id)(ho:Owns ou (objs (.mk i o n nb b (l++t::r) a)))(hn:(keys (objs (.mk i o n nb b (l++t::r) a))).Nodup):
  UpdL ou (objs (.mk i o n nb b (l++t::r) a)) ou' (objs (.mk i o n nb b (l++t'::r) a)):=by
 have e:∀u:LTr,u.id=t.id->objs (.mk i o n nb b (l++u::r) a)=((i,.cells [int o,int n,bC nb b,.sl 1 (kC (l++t::r)),.sl 2 (a.map lAlt)])::(bO nb b++aO a)++objss l)++objs u++objss r:=fun u hu=>by
  have hk:kC (l++u::r)=kC (l++t::r):=by simp[kC,hu]
  simp only[objs,Q2m,objss,hk,List.append_assoc,List.cons_append]
 rw[e t rfl]at ho hn ⊢
 rw[e t' hid]
 exact h.part ho hn
theorem Qat(l r:List LTr):erTs (l++r)=erTs l++erTs r:=by simp[Q2i]
theorem Q2e(i:Nat)(o n:Int)(nb:Nb)(b:List Int)(ks:List LTr)(a:List LAlt):objs (.mk i o n nb b ks a)=(i,.cells [int o,int n,bC nb b,.sl 1 (kC ks),.sl 2 (a.map lAlt)])::((bO nb b++aO a)++objss ks):=by simp[objs]
theorem Qek{l:List LTr}{i:Nat}{t:LTr}(h:l[i]?=some t):(kC l)[i]?=some [.ptr (.o t.id) 0]:=by simp[kC,h]
theorem Qas(l:List LTr):(erTs l).length=l.length:=by simp[Q2i]
theorem Q7a{ou:Outer}{i:Nat}{o n:Int}{nb:Nb}{b:List Int}{ks:List LTr}{a:List LAlt}{t:LTr}(h:Owns ou (objs (.mk i o n nb b ks a)))(ht:t∈ks):Owns ou (objs t):=fun p hp=>h p (by
 rw[Q2e]
 refine List.mem_cons_of_mem _ (List.mem_append_right _ ?_)
 rw[Q2s]
 exact List.mem_flatMap.2 ⟨t,ht,hp⟩)
theorem Q4i{i:Nat}{o n:Int}{nb:Nb}{b:List Int}{l r:List LTr}{a:List LAlt}{t:LTr}(h:(keys (objs (.mk i o n nb b (l++t::r) a))).Nodup):(keys (objs t)).Nodup:=by
 rw[Q2e,Q2m,show objss (t::r)=objs t++objss r from rfl]at h
 have h0:(i::keys ((bO nb b++aO a)++(objss l++(objs t++objss r)))).Nodup:=h
 simp only[Q0z]at h0
 have h1:=(List.nodup_cons.1 h0).2
 have h2:=(List.nodup_append.1 h1).2.1
 have h3:=(List.nodup_append.1 h2).2.1
 exact (List.nodup_append.1 h3).1
end Go.Proofs.YthboaankaaeemaaDoor
namespace Go.CoreX
theorem Qbm{flat:Bool}{e f:List Ex}{x y:Ex}(hx:∀k∈x.kids,0<=k/\k < (e.length:Int))(hy:∀k∈y.kids,0<=k/\k < (f.length:Int))(ho:x.op=y.op)(hn:x.n=y.n)(hb:x.binds=y.binds)(ha:x.alts=y.alts)(hl:x.kids.length=y.kids.length)
  (h2:∀i:Nat,((x.kids.map fun k=>(Q0t e k.toNat).op)[i]?)=some 2->((y.kids.map fun k=>(Q0t f k.toNat).op)[i]?)=some 2) (h:Q0k flat e x=0):Q0k flat f y=0:=by
 obtain⟨o,n,b,kx,a⟩:=x
 obtain⟨o',n',b',ky,a'⟩:=y
 dsimp only at ho hn hb ha hl hx hy h2
 subst ho hn hb ha
 unfold Q0k Q1r at h ⊢
 dsimp only at h ⊢
 rw[←Qb7 hl,←Q8p hl]
 split at h
 ·cases h
 rename_i h0
 rw[if_neg h0]
 cases hs:shape ⟨o,n,b,kx,a⟩ with
 |false=>rw[hs]at h;simp at h
 |true=>
  rw[hs]at h
  rw[if_neg (by simp)]at h ⊢
  split at h
  ·rename_i h1;exact absurd h h1
  rename_i h1
  rw[if_neg h1]
  have hb:(List.range b.length).any (Q0y f ⟨o,n,b,ky,a⟩)=false:=by
   rw[List.any_eq_false]
   intro i hi
   have hi:i < b.length:=by simpa using hi
   split at h
   ·cases h
   rename_i h3
   have h3:Q0y e ⟨o,n,b,kx,a⟩ i=false:=by
    have h4:(List.range b.length).any (Q0y e ⟨o,n,b,kx,a⟩)=false:=by simpa using h3
    rw[List.any_eq_false]at h4
    simpa using h4 i (by simpa using hi)
   unfold Q0y at h3 ⊢
   dsimp only at h3 ⊢
   by_cases h5:o=5
   ·have hr:=Q8m hs h5
    simp only at hr
    obtain⟨k,g1⟩:∃k,kx[i]?=some k:=⟨kx[i]'(by omega),List.getElem?_eq_getElem _⟩
    obtain⟨m,g2⟩:∃k,ky[i]?=some k:=⟨ky[i]'(by omega),List.getElem?_eq_getElem _⟩
    have k1:=hx k (List.mem_of_getElem? g1)
    have k2:=hy m (List.mem_of_getElem? g2)
    have e1:kx.getD i 0=k:=by rw[List.getD_eq_getElem?_getD,g1];rfl
    have e2:ky.getD i 0=m:=by rw[List.getD_eq_getElem?_getD,g2];rfl
    have h6:=h2 i
    rw[List.getElem?_map,List.getElem?_map,g1,g2]at h6
    have o1:=Q7c e k.toNat (by omega)
    have o2:=Q7c f m.toNat (by omega)
    simp only[Option.map_some,Option.some.injEq]at h6
    rw[e1,←o1]at h3
    rw[e2,←o2]
    change (o==5&&!((Q0t e k.toNat).op==2)||_)=false at h3
    change ¬(o==5&&!((Q0t f m.toNat).op==2)||_)=true
    simp only[h5]at h3 ⊢
    simp at h3 ⊢
    exact h6 h3
   ·have h7:(o==5)=false:=by simpa using h5
    rw[h7]at h3 ⊢
    simpa using h3
  rw[hb];simp
-- The tree with the let left out.
mutual
inductive DropR (L D:Tr):Tr->Tr->Prop
 |here:DropR L D L D
 |node {o n:Int}{b:List Int}{a:List Alt}{ks ks':List Tr}(h:DropRs L D ks ks'):DropR L D (.mk o n b ks a) (.mk o n b ks' a)
inductive DropRs (L D:Tr):List Tr->List Tr->Prop
 |nil:DropRs L D [] []
 |cons {t t':Tr}{l l':List Tr}(h:DropR L D t t') (k:DropRs L D l l'):DropRs L D (t::l) (t'::l')
end
mutual
theorem Qew{L D:Tr}(h0:(bndT D).Sublist (bndT L)):∀{t t':Tr},DropR L D t t'->(bndT t').Sublist (bndT t)
 |_,_,.here=>h0
 |_,_,.node h=>by simp only[bndT];exact (List.Sublist.refl _).append (Qc9 h0 h)
theorem Qc9{L D:Tr}(h0:(bndT D).Sublist (bndT L)):∀{l l':List Tr},DropRs L D l l'->(bndTs l').Sublist (bndTs l)
 |_,_,.nil=>.refl _
 |_,_,.cons h k=>by simp only[bndTs];exact (Qew h0 h).append (Qc9 h0 k)
end
mutual
theorem Qev{L D:Tr}(h0:cntN D<=cntN L):∀{t t':Tr},DropR L D t t'->cntN t'<=cntN t
 |_,_,.here=>h0
 |_,_,.node h=>by simp only[cntN];have:=Qc8 h0 h;omega
theorem Qc8{L D:Tr}(h0:cntN D<=cntN L):∀{l l':List Tr},DropRs L D l l'->cntNs l'<=cntNs l
 |_,_,.nil=>Nat.le_refl _
 |_,_,.cons h k=>by simp only[cntNs];have:=Qev h0 h;have:=Qc8 h0 k;omega
end
mutual
theorem Q9j{L D:Tr}(h0:Q0w D<=Q0w L):∀{t t':Tr},DropR L D t t'->Q0w t'<=Q0w t
 |_,_,.here=>h0
 |_,_,.node h=>by
  simp only[Q0w]
  have:=Q81 h0 h 0 0 (Int.le_refl _)
  omega
theorem Q81{L D:Tr}(h0:Q0w D<=Q0w L):∀{l l':List Tr},DropRs L D l l'->∀m m',m'<=m->(Q4d l').foldl mx m'<=(Q4d l).foldl mx m
 |_,_,.nil,m,m',h=>h
 |_,_,.cons h k,m,m',hm=>by
  simp only[Q4d,List.foldl_cons]
  refine Q81 h0 k _ _ ?_
  have:=Q9j h0 h
  unfold mx
  split <;> split <;> omega
end
theorem Qij{o n:Int}{b ops ops':List Int}{a:List Alt}(hlen:ops'.length=ops.length)(h2:∀i:Nat,ops[i]?=some 2->ops'[i]?=some 2)(hp:pLab ⟨o,n,b,ops,a⟩):pLab ⟨o,n,b,ops',a⟩:=by
 intro e x hk hl
 obtain⟨e0,he0⟩:∃e0:List Ex,e0=ops.map fun op=>⟨op,0,[],[],[]⟩:=⟨_,rfl⟩
 obtain⟨x0,hx0⟩:∃x0:Ex,x0=⟨o,n,b,(List.range ops.length).map fun i:Nat=>(i:Int),a⟩:=⟨_,rfl⟩
 have hl0:e0.length=ops.length:=by rw[he0];simp
 have hk0:∀k∈x0.kids,0<=k/\k < (e0.length:Int):=by
  intro k hk
  rw[hx0]at hk
  simp only[List.mem_map,List.mem_range]at hk
  obtain⟨i,hi,rfl⟩:=hk
  rw[hl0];omega
 have hop:∀i,i < ops.length->((growL e0).getD i default).op=ops.getD i 0:=fun i hi=>by
  rw[Q7c e0 i (by omega),he0,List.getD_eq_getElem?_getD,List.getD_eq_getElem?_getD,List.getElem?_map]
  rw[List.getElem?_eq_getElem hi];rfl
 have hlab:labE e0 x0=⟨o,n,b,ops,a⟩:=by
  unfold labE
  rw[hx0]
  simp only[Lab.mk.injEq,true_and,and_true,List.map_map]
  refine List.ext_getElem? fun i=>?_
  by_cases hi:i < ops.length
  ·rw[List.getElem?_map,List.getElem?_range hi]
   simp only[Option.map_some,Function.comp_apply,Int.toNat_natCast]
   rw[hop i hi,List.getD_eq_getElem?_getD,List.getElem?_eq_getElem hi];rfl
  ·rw[List.getElem?_eq_none (by simp;omega),List.getElem?_eq_none (by omega)]
 have h0:=hp e0 x0 hk0 hlab
 have hl2:=hl
 unfold labE at hl
 simp only[Lab.mk.injEq]at hl
 obtain⟨l1,l2,l3,l4,l5⟩:=hl
 have hlab2:=hlab
 unfold labE at hlab2
 simp only[Lab.mk.injEq]at hlab2
 obtain⟨m1,m2,m3,m4,m5⟩:=hlab2
 refine Qbm hk0 hk (m1.trans l1.symm) (m2.trans l2.symm) (m3.trans l3.symm) (m5.trans l5.symm) ?_ ?_ h0
 ·have:=congrArg List.length l4
  have h3:=congrArg List.length m4
  simp only[List.length_map]at this h3
  omega
 ·intro i hi
  have h3:(x0.kids.map fun k=>((growL e0).getD k.toNat default).op)[i]?=some 2:=hi
  rw[m4]at h3
  have h4:=h2 i h3
  rw[←l4]at h4
  exact h4
mutual
theorem Qio:∀(t:Tr)(sc sc':List Int),(∀n,n∈sc->n∈sc')->occT sc t=[]->occT sc' t=[]
 |.mk o n b ks a,sc,sc',hs,h=>by
  simp only[occT,List.append_eq_nil_iff]at h ⊢
  refine⟨?_,Qbi ks sc sc' o b a 0 hs h.2⟩
  have h1:=h.1
  split at h1
  ·cases h1
  ·rename_i h2
   rw[if_neg]
   rintro⟨h3,h4⟩
   refine h2 ⟨h3,?_⟩
   simp only[List.contains_eq_mem,decide_eq_false_iff_not]at h4 ⊢
   exact fun h5=>h4 (hs n h5)
theorem Qbi:∀(l:List Tr)(sc sc':List Int)(o:Int)(b:List Int)(a:List Alt)(i:Nat),(∀n,n∈sc->n∈sc')->occTs sc o b a i l=[]->occTs sc' o b a i l=[]
 |[],_,_,_,_,_,_,_,_=>rfl
 |t::l,sc,sc',o,b,a,i,hs,h=>by
  simp only[occTs,List.append_eq_nil_iff]at h ⊢
  exact⟨Qio t _ _ (fun n hn=>by rcases List.mem_append.1 hn with h|h;exact List.mem_append_left _ h;exact List.mem_append_right _ (hs n h)) h.1,Qbi l sc sc' o b a (i+1) hs h.2⟩
end
mutual
theorem Qc7{L D:Tr}(h0:∀sc,occT sc L=[]->occT sc D=[]):∀{t t':Tr},DropR L D t t'->∀sc,occT sc t=[]->occT sc t'=[]
 |_,_,.here,sc,h=>h0 sc h
 |_,_,.node h,sc,hh=>by
  simp only[occT,List.append_eq_nil_iff]at hh ⊢
  exact⟨hh.1,Q9i h0 h _ _ _ _ _ hh.2⟩
theorem Q9i{L D:Tr}(h0:∀sc,occT sc L=[]->occT sc D=[]):∀{l l':List Tr},DropRs L D l l'->∀sc o b a i,occTs sc o b a i l=[]->occTs sc o b a i l'=[]
 |_,_,.nil,_,_,_,_,_,_=>rfl
 |_,_,.cons h k,sc,o,b,a,i,hh=>by
  simp only[occTs,List.append_eq_nil_iff]at hh ⊢
  exact⟨Qc7 h0 h _ hh.1,Q9i h0 k _ _ _ _ _ hh.2⟩
end
theorem Qji{e:List Ex}(h:IsTree e):(Q07 e).Perm (bndT (grow e)):=by
 rw[List.perm_iff_count]
 intro k
 have h5:=Q84 k (grow e)
 rw[←Q38 _ h]at h5
 have h6:(((Q07 e).count k:Nat):Int)=((labs e).map (cntB k)).sum:=by rw[Q2b,Q63];rfl
 omega
end Go.CoreX
