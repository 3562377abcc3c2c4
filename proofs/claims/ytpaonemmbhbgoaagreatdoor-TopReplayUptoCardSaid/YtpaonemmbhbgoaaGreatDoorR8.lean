/- List, walked. -/
import Derived.Test.YtpaonemmbhbgoaaGreatDoorR7
import Derived.Shelf.Sort.Plain
import Derived.Shelf.Slices.In.SortNone
set_option maxRecDepth 10000
set_option linter.unusedVariables false
set_option linter.unusedSimpArgs false
namespace Go.CoreX
theorem Q4i(t:Tr):∀(l:List Tr)(out:List Ex),Q02 out (l++[t])=(listT (Q02 out l).1 t,(Q02 out l).2++[((listT (Q02 out l).1 t).length:Int) - 1])
 |[],out=>by simp[Q02]
 |a::l,out=>by
  have:=Q4i t l (listT out a)
  simp only[List.cons_append,Q02,this]
mutual
theorem Qod:∀(t:Tr)(out:List Ex),out.length < (listT out t).length
 |.mk o n b k a,out=>by
  have:=Q31 k out
  simp only[listT,List.length_append,List.length_singleton];omega
theorem Q31:∀(l:List Tr)(out:List Ex),out.length<=(Q02 out l).1.length
 |[],out=>by simp[Q02]
 |t::l,out=>by
  have h1:=Qod t out
  have h2:=Q31 l (listT out t)
  simp only[Q02];omega
end
theorem Q2u:∀(l r:List Tr)(out:List Ex),(Q02 out (l++r)).1=(Q02 (Q02 out l).1 r).1
 |[],r,out=>by simp[Q02]
 |a::l,r,out=>by simp only[List.cons_append,Q02,Q2u l r]
theorem Q3a:∀(l:List Tr)(out:List Ex),(Q02 out l).2.length=l.length
 |[],out=>by simp[Q02]
 |a::l,out=>by simp[Q02,Q3a l]
-- The lists of a tree are not too long.
mutual
def okT:Tr->Prop
 |.mk _ _ b k a=>b.length<=1048576/\k.length<=1048576/\a.length<=1048576/\((∀x∈a,x.binds.length<=1048576)/\b.length+(a.flatMap (·.binds)).length<=4194304)/\okTs k
def okTs:List Tr->Prop
 |[]=>True
 |t::l=>okT t/\okTs l
end
theorem Q4g:∀{l:List Tr},okTs l↔∀t∈l,okT t
 |[]=>by simp[okTs]
 |t::l=>by simp[okTs,Q4g (l:=l)]
end Go.CoreX
namespace Go.Proofs.YtpaonemmbhbgoaaGreatDoor
open Go Go.Abs Go.CoreX
variable {Γ:List (Nat×List AC)}
abbrev fnW (kw ko:Nat):AC:=.fn (.func 82) [] [.ptr (.o kw) 0,.ptr (.o ko) 0]
def ouS (ou:Outer)(ko kt:Nat)(es:List (List AC)):Outer:=updO (updO ou ko (.cells [.gs 5 es (.o kt)])) kt (.tok 57 5 es.length)
theorem ouS_o{ou:Outer}{ko kt:Nat}(h:ko≠kt)(es:List (List AC)):ouS ou ko kt es ko=some (.cells [.gs 5 es (.o kt)]):=by
 unfold ouS;rw[Q0c _ (Ne.symm h),Q06]
theorem ouS_t(ou:Outer)(ko kt:Nat)(es:List (List AC)):ouS ou ko kt es kt=some (.tok 57 5 es.length):=by unfold ouS;rw[Q06]
theorem ouS_w{ou:Outer}{ko kt k:Nat}(h:k≠ko)(h2:k≠kt)(es:List (List AC)):ouS ou ko kt es k=ou k:=by
 unfold ouS;rw[Q0c _ (Ne.symm h2),Q0c _ (Ne.symm h)]
theorem Q37{ou:Outer}{ko kt:Nat}{es:List (List AC)}(h:OuOk ou)(he:idsS isO es):OuOk (ouS ou ko kt es):=by
 intro k o hk
 unfold ouS at hk
 by_cases e:kt=k
 ·subst e;rw[Q06]at hk;cases hk;trivial
 ·rw[Q0c _ e]at hk
  by_cases e2:ko=k
  ·subst e2;rw[Q06]at hk;cases hk;exact⟨⟨trivial,he⟩,trivial⟩
  ·rw[Q0c _ e2]at hk;exact h k o hk
def ListOk (Γ:List (Nat×List AC))(t:Tr):Prop:=∀(ou:Outer)(kw ko kt:Nat)(out:List Ex),OuOk ou->ou kw=some (.cells [fnW kw ko])->ou ko=none->ou kt=none->ko≠kt->(listT out t).length<=1048576->
 AFn Tryz.prog Γ 82 [.one (.box (cTr t)),.one (.ptr (.o kw) 0),.one (.ptr (.o ko) 0)] (ouS ou ko kt (out.map cEx)) (fun r ou'=>r=.one (int (((listT out t).length:Int) - 1))/\∃kt',ou kt'=none/\ko≠kt'/\ou'=ouS ou ko kt' ((listT out t).map cEx))
set_option maxHeartbeats 1000000 in
theorem Qhw(hΓ:∀g cs,(g,cs)∈Γ->idsL isO cs):∀t:Tr,okT t->ListOk Γ t
 |.mk o n b ks a,hok=>by
  obtain⟨hb,hk,ha,⟨hab,_⟩,hks⟩:=hok
  have ih:∀t∈ks,ListOk Γ t:=fun t ht=>Qhw hΓ t (Q4g.1 hks t ht)
  intro ou kw ko kt out hou0 hw ho ht hne hsz
  have hwo:kw≠ko:=fun e=>by rw[e,ho]at hw;cases hw
  have hsz2:(Q02 out ks).1.length < 1048576:=by simp only[listT,List.length_append,List.length_singleton]at hsz;omega
  refine AFn.walk 70 tabOk Tryz.func82 rfl (by kernel_rfl) rfl rfl fun hou=>?_
  have hcl:=Q5u (Γ:=Γ) b hb
  refine zA ?_
  refine ACode.drawXA tabOk 15 14 [(12,.one (.sl 1 (b.map cI)))] follows (by kernel_rfl) rfl rfl rfl rfl rfl rfl rfl rfl rfl ?_ ?_ ?_
  ·exact .call hΓ hcl hou (by simp) rfl rfl rfl rfl rfl rfl .nil
  ·exact .call hΓ hcl hou (by simp) rfl rfl rfl rfl rfl rfl .nil
  refine zA ?_
  refine ACode.grow 0 3 3 1 rfl rfl ?_
  refine ACode.loopR hΓ (α:=Nat×Nat) (fun c=>[(29,.one (int c.1)),(28,.one (int (Q10 ks).length)),(27,.one (.sl 1 (Q10 ks))),(5,.one (.ptr (.l 0) 0)),(2,.one (.ptr (.o ko) 0)),(1,.one (.ptr (.o kw) 0)),(0,.one (.box (cTr (.mk o n b ks a))))])
   (fun c=>⟨2,[(1,.tok 3 1 c.1),(0,.cells [int o,int n,.sl 1 (b.map cI),.gs 1 ((Q02 out (ks.take c.1)).2.map cI) (.l 1),.lit (.slice none 0 0)])],ouS ou ko c.2 ((Q02 out (ks.take c.1)).1.map cEx)⟩)
   (fun m c=>c.1<=ks.length/\(ou c.2=none/\ko≠c.2)/\m=ks.length - c.1) (a0:=(0,kt)) (ρ:=id) ⟨by omega,⟨ht,hne⟩,rfl⟩ (LessR.of rfl zFS (by simp) ?_ rfl (by simp[Q02];rfl) hou) fun m c hi=>?_
  ·repeat' first|exact LoSub.nil|refine zlc ?_|refine zld ?_ ?_|rfl
   all_goals (simp[AObj.ren,renL,AC.ren,Q02];rfl)
  obtain⟨i,kt⟩:=c
  obtain⟨hil,⟨ht,hne⟩,rfl⟩:=hi
  simp only at hil ht hne
  have hwt:kw≠kt:=fun e=>by rw[e,ht]at hw;cases hw
  have hle:(Q02 out (ks.take i)).1.length<=(Q02 out ks).1.length:=by
   have:=Q2u (ks.take i) (ks.drop i) out
   rw[List.take_append_drop]at this
   rw[this];exact Q31 _ _
  refine zA ?_
  refine ACode.cond rfl (fun hb3=>?_) (fun hb3=>?_)
  ·have hlt2:i < ks.length:=by simpa using hb3
   obtain⟨t,ht2⟩:=Q00 hlt2
   have hsn:=Q4i t (ks.take i) out
   rw[←Q0n ht2]at hsn
   have hle2:(listT (Q02 out (ks.take i)).1 t).length<=1048576:=by
    have:=Q2u (ks.take (i+1)) (ks.drop (i+1)) out
    rw[List.take_append_drop]at this
    have h2:=Q31 (ks.drop (i+1)) (Q02 out (ks.take (i+1))).1
    rw[←this,hsn]at h2
    simp only at h2
    omega
   have hcall:=ih t (List.mem_of_getElem? ht2) ou kw ko kt (Q02 out (ks.take i)).1 hou0 hw ho ht hne hle2
   have hil2:((Q02 out (ks.take i)).2.map cI).length=i:=by rw[List.length_map,Q3a];simp;omega
   refine zA ?_
   refine zS (zIA rfl rfl rfl (by omega) (Q1v ht2)) ?_
   refine zA ?_
   refine ACode.drawXR (va:=.one (int (((listT (Q02 out (ks.take i)).1 t).length:Int) - 1))) tabOk 6 4 [(2,.one (fnW kw ko))]
    (fun σ=>∃kt',ou kt'=none/\ko≠kt'/\σ=⟨2,[(1,.tok 3 1 i),(0,.cells [int o,int n,.sl 1 (b.map cI),.gs 1 ((Q02 out (ks.take i)).2.map cI) (.l 1),.lit (.slice none 0 0)])],ouS ou ko kt' ((listT (Q02 out (ks.take i)).1 t).map cEx)⟩)
    follows (by kernel_rfl) rfl rfl rfl rfl rfl ?_ rfl ⟨rfl,rfl⟩ rfl ?_ ?_ ?_ ?_
   ·rintro σ ⟨kt',h1,h2,rfl⟩;rfl
   ·refine Q0w.call hΓ rfl rfl rfl rfl (by simp) (Q37 hou0 (by simp)) hcall fun r ou' hq _ _=>?_
    obtain⟨rfl,kt',h1,h2,rfl⟩:=hq
    exact⟨rfl,kt',h1,h2,rfl⟩
   ·exact .step rfl (zHP (zLD rfl rfl (ouS_w hwo hwt _ |>.trans hw) rfl)) .nil
   ·rintro σ ⟨kt',h1,h2,rfl⟩
    have hwt':kw≠kt':=fun e=>by rw[e,h1]at hw;cases hw
    exact .step rfl (zHP (zLD rfl rfl (ouS_w hwo hwt' _ |>.trans hw) rfl)) .nil
   rintro σ ⟨kt',h1,h2,rfl⟩
   refine zA ?_
   refine AOps.app tabOk rfl rfl rfl rfl rfl rfl rfl rfl rfl (Base.gs' _ _ _ _ _ (by rfl) hil2.symm) (.sl _ _) rfl ?_ ?_ ?_
   ·rw[hil2];show (i+1) * 8<=_;omega
   ·rw[hil2];show i+1<=_;omega
   refine zM ?_
   refine cInv ⟨ks.length - (i+1),(i+1,kt'),fun k=>if k=1 then 2 else k,by omega,⟨by omega,⟨h1,h2⟩,rfl⟩,LessR.of rfl zFS (by simp) ?_ rfl (by simp only[hsn];rfl) (Q37 hou0 (by simp))⟩
   repeat' first|exact LoSub.nil|refine zlc ?_|refine zld ?_ ?_|rfl
   ·simp only[AObj.ren,List.length_append,hil2];rfl
   ·simp only[hsn];simp only[AObj.ren,renL,AC.ren,Q63];rw[List.map_append];rfl
  have hlt2:i=ks.length:=by simp at hb3;omega
  subst hlt2
  rw[List.take_length]at *
  refine zA ?_
  refine ACode.grow 0 4 46 2 rfl rfl ?_
  refine ACode.loopR hΓ (α:=Nat) (fun i=>[(47,.one (int i)),(46,.one (int (a.map cAlt).length)),(45,.one (.sl 2 (a.map cAlt))),(5,.one (.ptr (.l 0) 0)),(2,.one (.ptr (.o ko) 0)),(1,.one (.ptr (.o kw) 0)),(0,.one (.box (cTr (.mk o n b ks a))))])
   (fun i=>⟨3,[(2,.tok 46 2 i),(0,.cells [int o,int n,.sl 1 (b.map cI),.gs 1 ((Q02 out ks).2.map cI) (.l 1),.gs 2 ((a.take i).map cAlt) (.l 2)])],ouS ou ko kt ((Q02 out ks).1.map cEx)⟩)
   (fun m i=>i<=a.length/\m=a.length - i) (a0:=0) (ρ:=id) ⟨by omega,rfl⟩ (LessR.of rfl zFS (by simp) ?_ rfl rfl (Q37 hou0 (by simp))) fun m i hi=>?_
  ·repeat' first|exact LoSub.nil|refine zlc ?_|refine zld ?_ ?_|rfl
   all_goals (simp[AObj.ren,renL,AC.ren];exact⟨rfl,rfl⟩)
  obtain⟨hil,rfl⟩:=hi
  have hou2:OuOk (ouS ou ko kt ((Q02 out ks).1.map cEx)):=Q37 hou0 (by simp)
  refine zA ?_
  refine ACode.cond rfl (fun hb3=>?_) (fun hb3=>?_)
  ·have hlt2:i < a.length:=by simpa using hb3
   obtain⟨c,hc⟩:=Q00 hlt2
   have hal:((a.take i).map cAlt).length=i:=by simp;omega
   have hca:=Q5u (Γ:=Γ) c.binds (hab c (List.mem_of_getElem? hc))
   refine zA ?_
   refine zS (zIA rfl rfl rfl (by omega) (Q04 hc)) ?_
   refine zA ?_
   refine ACode.drawX tabOk 9 [(6,.one (.sl 1 (c.binds.map cI)))] follows (by kernel_rfl) rfl rfl rfl rfl (.call hΓ hca hou2 (by simp) rfl rfl rfl rfl rfl rfl .nil) ?_
   refine zA ?_
   refine AOps.app tabOk rfl rfl rfl rfl rfl rfl rfl rfl rfl (Base.gs' _ _ _ _ _ (by rfl) hal.symm) (.sl _ _) rfl ?_ ?_ ?_
   ·rw[hal];show (i+1) * 32<=_;omega
   ·rw[hal];show i+1<=_;omega
   refine zM ?_
   refine cInv ⟨a.length - (i+1),i+1,fun k=>if k=2 then 4 else k,by omega,⟨by omega,rfl⟩,LessR.of rfl zFS (by simp) ?_ rfl rfl hou2⟩
   repeat' first|exact LoSub.nil|refine zlc ?_|refine zld ?_ ?_|rfl
   ·simp only[AObj.ren,List.length_append,hal];rfl
   ·rw[Q0n hc];simp only[AObj.ren,renL,AC.ren,Q63,Q6p];rw[List.map_append];rfl
  have hlt2:i=a.length:=by simp at hb3;omega
  subst hlt2
  rw[List.take_length]
  refine zA ?_
  refine zS (zLD rfl rfl (ouS_o hne _) rfl) ?_
  (first|((with_reducible refine oj ?_);refine zau ?_)|(with_reducible refine zst ?_)|((with_reducible refine Q0j ?_ ?_);rfl)|(with_reducible refine ok ?_;first|refine ACode.condT rfl ?_|refine ACode.condF rfl ?_))
  refine AOps.wk 64 rfl (y:=.agg (cEx ⟨o,n,b,(Q02 out ks).2,a⟩)) (WkF.agg ?_) ?_
  ·exact .cons (.refl _) (.cons (.refl _) (.cons (.refl _) (.cons (.gsE rfl) (.cons (.gsE rfl) .nil))))
  refine zA ?_
  have hT:listT out (.mk o n b ks a)=(Q02 out ks).1++[⟨o,n,b,(Q02 out ks).2,a⟩]:=by simp only[listT]
  have hmap:(Q02 out ks).1.map cEx++[cEx ⟨o,n,b,(Q02 out ks).2,a⟩]=(listT out (.mk o n b ks a)).map cEx:=by rw[hT,List.map_append];rfl
  refine AOps.app (es:=(Q02 out ks).1.map cEx) tabOk rfl rfl rfl rfl rfl rfl rfl rfl rfl (Base.gs' _ 57 5 _ (.o kt) (ouS_t ou ko kt _) rfl) (.sl 5 [cEx ⟨o,n,b,(Q02 out ks).2,a⟩]) rfl ?_ ?_ ?_
  ·simp;show (_+1) * 88<=_;omega
  ·simp;omega
  rw[hmap]
  refine AOps.storeOwn (cs:=[.gs 5 ((Q02 out ks).1.map cEx) (.o kt)]) tabOk rfl rfl rfl rfl rfl rfl rfl (show (bif Nat.beq ko kt then some AObj.dead else ouS ou ko kt ((Q02 out ks).1.map cEx) ko)=_ by rw[Q05 hne];exact ouS_o hne _) (by simp) ?_
  refine AOps.cede 3 (show 3 < 4 by omega) fun k hk=>⟨[(2,.one (.ptr (.o ko) 0))],⟨4,[],ouS ou ko k ((listT out (.mk o n b ks a)).map cEx)⟩,⟨fun d x hd=>?_,rfl,fun i x hx=>?_⟩,?_⟩
  ·by_cases e:2=d
   ·subst e
    simp[Fr.get]at hd;subst hd
    exact⟨_,rfl,WkF.ofEq rfl⟩
   ·simp[Fr.get,Q05 e]at hd
  ·have hk':(bif Nat.beq k ko then some (AObj.cells [.gs 5 ((listT out (.mk o n b ks a)).map cEx) (.l 3)])else bif Nat.beq k kt then some AObj.dead else ouS ou ko kt ((Q02 out ks).1.map cEx) k)=none:=hk
   have k1:k≠ko:=fun e=>by subst e;simp at hk'
   rw[Q05 k1]at hk'
   have k2:k≠kt:=fun e=>by subst e;simp at hk'
   rw[Q05 k2]at hk'
   simp only[cond_false,ouS_w k1 k2]at hk'
   cases i with
   |l m=>cases hx
   |o m=>
    have hx':ouS ou ko k ((listT out (.mk o n b ks a)).map cEx) m=some x:=hx
    by_cases e:m=k
    ·subst e
     rw[ouS_t]at hx';cases hx'
     exact⟨.l 3,_,rfl,rfl,rfl⟩
    ·by_cases e2:m=ko
     ·subst e2
      rw[ouS_o e]at hx';cases hx'
      refine⟨.o m,.cells [.gs 5 ((listT out (.mk o n b ks a)).map cEx) (.l 3)],?_,rfl,?_⟩
      ·show (bif Nat.beq m m then _ else _)=_;rw[Q2z];rfl
      ·simp only[AObj.sub,subL,AC.sub];rw[Qb3 _ (by simp)];rfl
     ·rw[ouS_w e2 e]at hx'
      have e3:m≠kt:=fun e=>by rw[e,ht]at hx';cases hx'
      refine⟨.o m,x,?_,rfl,(AObj.sub_o x (hou0 m x hx')).symm⟩
      show (bif Nat.beq m ko then _ else bif Nat.beq m kt then _ else ouS ou ko kt _ m)=_
      rw[Q05 e2,Q05 e3]
      exact (ouS_w e2 e3 _).trans hx'
  ·have hk':(bif Nat.beq k ko then some (AObj.cells [.gs 5 ((listT out (.mk o n b ks a)).map cEx) (.l 3)])else bif Nat.beq k kt then some AObj.dead else ouS ou ko kt ((Q02 out ks).1.map cEx) k)=none:=hk
   have k1:k≠ko:=fun e=>by subst e;simp at hk'
   rw[Q05 k1]at hk'
   have k2:k≠kt:=fun e=>by subst e;simp at hk'
   rw[Q05 k2]at hk'
   simp only[cond_false,ouS_w k1 k2]at hk'
   refine zA ?_
   refine zS (zLD rfl rfl (ouS_o (Ne.symm k1) _) rfl) ?_
   refine zM ?_
   refine AFn.fin' rfl (WkF.ofEq ?_) (by simp) (Q37 hou0 (by simp)) ⟨rfl,k,hk',Ne.symm k1,rfl⟩
   simp
end Go.Proofs.YtpaonemmbhbgoaaGreatDoor
namespace Go.Abs
inductive CedFr (θ:Id->Id)(fr:Fr):Fr->Prop
 |nil:CedFr θ fr []
 |cons {k:Nat}{x y:FV}{r:Fr}(h:Fr.get k fr=some y) (hw:y.sub θ=x) (hr:CedFr θ fr r):CedFr θ fr ((k,x)::r)
theorem CedFr.get{θ:Id->Id}{fr fr':Fr}(h:CedFr θ fr fr'):∀d x,Fr.get d fr'=some x->∃y,Fr.get d fr=some y/\WkF (y.sub θ) x:=by
 induction h with
 |nil=>intro d x h;cases h
 |@cons k x y r h hw hr ih=>
  intro d z hz
  simp only[Fr.get]at hz
  by_cases e:k=d
  ·subst e;simp at hz;subst hz;exact⟨y,h,WkF.ofEq hw⟩
  ·rw[Q05 e]at hz;exact ih d z hz
end Go.Abs
namespace Go.Proofs.YtpaonemmbhbgoaaGreatDoor
open Go Go.Abs Go.CoreX
variable {Γ:List (Nat×List AC)}
theorem Qaq(hΓ:∀g cs,(g,cs)∈Γ->idsL isO cs)(t:Tr)(ht:okT t)(hsz:(listT [] t).length<=1048576):APure Tryz.prog Γ 53 [.one (.box (cTr t))] (.one (.sl 5 ((listT [] t).map cEx))):=by
 intro ou
 refine AFn.walk 10 tabOk Tryz.func53 rfl (by kernel_rfl) rfl rfl fun hou=>?_
 iterate 22 (first|((with_reducible refine oj ?_);refine zau ?_)|(with_reducible refine zst ?_)|((with_reducible refine Q0j ?_ ?_);rfl)|(with_reducible refine ok ?_;first|refine ACode.condT rfl ?_|refine ACode.condF rfl ?_))
 refine ACode.grow 0 0 57 5 rfl rfl ?_
 refine zA ?_
 refine AOps.cede 0 (show 0 < 3 by omega) fun ko hko=>⟨[(7,.one (.box (cTr t))),(6,.one (.fn (.func 82) [] [.ptr (.l 1) 0,.ptr (.o ko) 0])),(3,.one (.ptr (.o ko) 0))],
  ⟨3, [(2, .tok 57 5 0), (1, .cells [.fn (.func 82) [] [.ptr (.l 1) 0, .ptr (.o ko) 0]])], updO ou ko (.cells [.gs 5 [] (.l 2)])⟩, ⟨CedFr.get ?_, rfl, fun i x hx => ?_⟩, ?_⟩
 ·exact .cons rfl (FV.sub_o _ (by simp)) (.cons rfl rfl (.cons rfl rfl .nil))
 ·have hko:ou ko=none:=hko
  cases i with
  |l m=>
   by_cases e:2=m
   ·subst e;cases hx;exact⟨.l 2,_,rfl,rfl,rfl⟩
   ·have hx':lookL m [(1,AObj.cells [.fn (.func 82) [] [.ptr (.l 1) 0,.ptr (.o ko) 0]])]=some x:=by simpa[St.get,lookL,Q05 e]using hx
    by_cases e1:1=m
    ·subst e1;cases hx';exact⟨.l 1,_,rfl,rfl,rfl⟩
    ·simp[lookL,Q05 e1]at hx'
  |o m=>
   have hx':updO ou ko (.cells [.gs 5 [] (.l 2)]) m=some x:=hx
   by_cases e:ko=m
   ·subst e;rw[Q06]at hx';cases hx';exact⟨.l 0,_,rfl,rfl,rfl⟩
   ·rw[Q0c _ e]at hx'
    exact⟨.o m,x,hx',rfl,(AObj.sub_o x (hou m x hx')).symm⟩
 have hko:ou ko=none:=hko
 refine AOps.cede 1 (show 1 < 3 by omega) fun kw hkw=>⟨[(7,.one (.box (cTr t))),(6,.one (fnW kw ko)),(3,.one (.ptr (.o ko) 0))],
  ⟨3, [(2, .tok 57 5 0)], updO (updO ou ko (.cells [.gs 5 [] (.l 2)])) kw (.cells [fnW kw ko])⟩, ⟨CedFr.get ?_, rfl, fun i x hx => ?_⟩, ?_⟩
 ·exact .cons rfl (FV.sub_o _ (by simp)) (.cons rfl rfl (.cons rfl rfl .nil))
 ·have hkw:updO ou ko (.cells [.gs 5 [] (.l 2)]) kw=none:=hkw
  cases i with
  |l m=>
   by_cases e:2=m
   ·subst e;cases hx;exact⟨.l 2,_,rfl,rfl,rfl⟩
   ·simp[St.get,lookL,Q05 e]at hx
  |o m=>
   have hx':updO (updO ou ko (.cells [.gs 5 [] (.l 2)])) kw (.cells [fnW kw ko]) m=some x:=hx
   by_cases e:kw=m
   ·subst e;rw[Q06]at hx';cases hx';exact⟨.l 1,_,rfl,rfl,rfl⟩
   ·rw[Q0c _ e]at hx'
    by_cases e2:ko=m
    ·subst e2;rw[Q06]at hx';cases hx'
     exact⟨.o ko,_,Q06 _ _ _,rfl,rfl⟩
    ·have hx2:=hx'
     rw[Q0c _ e2]at hx2
     exact⟨.o m,x,hx',rfl,(AObj.sub_o x (hou m x hx2)).symm⟩
 have hkw:updO ou ko (.cells [.gs 5 [] (.l 2)]) kw=none:=hkw
 have hwo:ko≠kw:=fun e=>by subst e;rw[Q06]at hkw;cases hkw
 rw[Q0c _ hwo]at hkw
 refine AOps.cede 2 (show 2 < 3 by omega) fun kt hkt=>⟨[(7,.one (.box (cTr t))),(6,.one (fnW kw ko)),(3,.one (.ptr (.o ko) 0))],
  ⟨3, [], ouS (updO ou kw (.cells [fnW kw ko])) ko kt (([] : List Ex).map cEx)⟩, ⟨CedFr.get ?_, rfl, fun i x hx => ?_⟩, ?_⟩
 ·exact .cons rfl (FV.sub_o _ (by simp)) (.cons rfl rfl (.cons rfl rfl .nil))
 ·have hkt:updO (updO ou ko (.cells [.gs 5 [] (.l 2)])) kw (.cells [fnW kw ko]) kt=none:=hkt
  have hkto:ko≠kt:=fun e=>by subst e;rw[Q0c _ (Ne.symm hwo),Q06]at hkt;cases hkt
  cases i with
  |l m=>cases hx
  |o m=>
   have hx':ouS (updO ou kw (.cells [fnW kw ko])) ko kt (([]:List Ex).map cEx) m=some x:=hx
   by_cases e:m=kt
   ·subst e;rw[ouS_t]at hx';cases hx';exact⟨.l 2,_,rfl,rfl,rfl⟩
   ·by_cases e2:m=ko
    ·subst e2;rw[ouS_o hkto]at hx';cases hx'
     refine⟨.o m,.cells [.gs 5 [] (.l 2)],?_,rfl,rfl⟩
     show updO (updO ou m (.cells [.gs 5 [] (.l 2)])) kw (.cells [fnW kw m]) m=_
     rw[Q0c _ (Ne.symm hwo),Q06]
    ·rw[ouS_w e2 e]at hx'
     by_cases e3:kw=m
     ·subst e3;rw[Q06]at hx';cases hx'
      exact⟨.o kw,_,Q06 _ _ _,rfl,rfl⟩
     ·rw[Q0c _ e3]at hx'
      refine⟨.o m,x,?_,rfl,(AObj.sub_o x (hou m x hx')).symm⟩
      show updO (updO ou ko (.cells [.gs 5 [] (.l 2)])) kw (.cells [fnW kw ko]) m=_
      rw[Q0c _ e3,Q0c _ (Ne.symm e2)];exact hx'
 have hkt:updO (updO ou ko (.cells [.gs 5 [] (.l 2)])) kw (.cells [fnW kw ko]) kt=none:=hkt
 have hwt:kw≠kt:=fun e=>by subst e;rw[Q06]at hkt;cases hkt
 rw[Q0c _ hwt]at hkt
 have hot:ko≠kt:=fun e=>by subst e;rw[Q06]at hkt;cases hkt
 rw[Q0c _ hot]at hkt
 have hob:OuOk (updO ou kw (.cells [fnW kw ko])):=fun k o hk=>by
  by_cases e:kw=k
  ·subst e;rw[Q06]at hk;cases hk;simp
  ·rw[Q0c _ e]at hk;exact hou k o hk
 have hcall:=Qhw hΓ t ht (updO ou kw (.cells [fnW kw ko])) kw ko kt [] hob (Q06 _ _ _) (by rw[Q0c _ (Ne.symm hwo)];exact hko) (by rw[Q0c _ hwt];exact hkt) hot hsz
 refine AOps.call1 hΓ rfl rfl rfl rfl rfl rfl rfl (by simp) (Q37 hob (by simp)) hcall fun r ou' hq hids hou'=>?_
 obtain⟨rfl,kt',h1,h2,rfl⟩:=hq
 refine zA ?_
 refine zS (zLD rfl rfl (ouS_o h2 _) rfl) ?_
 refine AOps.wk 9 rfl (y:=.one (.sl 5 ((listT [] t).map cEx))) (.one (.gsE rfl)) ?_
 refine AOps.lessO ⟨3,[],ou⟩ rfl (fun i o ho=>?_) ?_
 ·cases i with
  |l m=>cases ho
  |o m=>
   have ho':ou m=some o:=ho
   show ouS (updO ou kw (.cells [fnW kw ko])) ko kt' _ m=some o
   have e1:m≠ko:=fun e=>by rw[e,hko]at ho';cases ho'
   have e2:kw≠m:=fun e=>by rw[←e,hkw]at ho';cases ho'
   have e3:m≠kt':=fun e=>by
    rw[←e,Q0c _ e2]at h1
    rw[h1]at ho';cases ho'
   rw[ouS_w e1 e3,Q0c _ e2];exact ho'
 refine zA ?_
 exact APure.fin rfl (WkF.ofEq rfl) (by simp) hou rfl
end Go.Proofs.YtpaonemmbhbgoaaGreatDoor
namespace Go.CoreX
def addB (β:Int->Int)(l:List Int):Int->Int:=fun k=>β k+l.count k
-- What occurs freely, by how often each is bound around.
mutual
def occB (β:Int->Int):Tr->List Int
 |.mk o n b k a=>(if o=0/\β n=0 then [n]else [])++occBs β o b a 0 k
def occBs (β:Int->Int)(o:Int)(b:List Int)(a:List Alt):Nat->List Tr->List Int
 |_,[]=>[]
 |i,t::ts=>occB (addB β (Q34 o b a i)) t++occBs β o b a (i+1) ts
end
theorem Qbe(β:Int->Int)(o:Int)(b:List Int)(a:List Alt)(t:Tr):∀(l:List Tr)(i:Nat),occBs β o b a i (l++[t])=occBs β o b a i l++occB (addB β (Q34 o b a (i+l.length:Nat))) t
 |[],i=>by simp[occBs]
 |x::l,i=>by
  simp only[List.cons_append,occBs,Qbe β o b a t l (i+1),List.append_assoc,List.length_cons]
  rw[show i+1+l.length=i+(l.length+1) by omega]
theorem mx_le(m:Int):∀l:List Int,m<=l.foldl mx m
 |[]=>by simp
 |d::l=>by
  have:=mx_le (mx m d) l
  have:m<=mx m d:=by unfold mx;split <;> omega
  simp only[List.foldl_cons];omega
theorem mx_mem:∀(l:List Int)(m d:Int),d∈l->d<=l.foldl mx m
 |x::l,m,d,h=>by
  simp only[List.foldl_cons]
  rcases List.mem_cons.1 h with rfl|h
  ·have h1:=mx_le (mx m d) l
   have:d<=mx m d:=by unfold mx;split <;> omega
   omega
  ·exact mx_mem l _ d h
theorem Qmp{o n:Int}{b:List Int}{ks:List Tr}{a:List Alt}{t:Tr}(h:t∈ks):Q1z t+1<=Q1z (.mk o n b ks a):=by
 simp only[Q1z,Q81]
 have:=mx_mem (ks.map Q1z) 0 (Q1z t) (List.mem_map_of_mem h)
 omega
theorem Qey:∀t:Tr,1<=Q1z t
 |.mk o n b ks a=>by
  simp only[Q1z]
  have:=mx_le 0 (Q68 ks)
  omega
end Go.CoreX
namespace Go.Proofs.YtpaonemmbhbgoaaGreatDoor
open Go Go.Abs Go.CoreX
variable {Γ:List (Nat×List AC)}
def BIs (β:Int->Int)(ck:Nat)(l:List (Nat×Int×Int)):Prop:=∃f,IMOk f ck l/\∀k,(f k).getD 0=β k
theorem BIs.put{β:Int->Int}{f:Int->Option Int}(hf:∀k,(f k).getD 0=β k)(n v:Int):∀k,(setF f n v k).getD 0=if n=k then v else β k:=fun k=>by
 unfold setF
 by_cases e:n=k
 ·rw[if_pos e,if_pos e];rfl
 ·rw[if_neg e,if_neg e];exact hf k
def ouB (cb:Nat)(lb:List (Nat×Int×Int))(co:Nat)(lo:List (Nat×Int×Unit)):Outer:=ouOf [.map cb (encI eN lb),.map co (encI eU lo)]
theorem Q9m(cb:Nat)(lb:List (Nat×Int×Int))(co:Nat)(lo:List (Nat×Int×Unit)):OuOk (ouB cb lb co lo):=by
 intro k o h
 match k,h with
 |0,h=>cases h;exact Q2x _ _ _
 |1,h=>cases h;exact Qi5 _ _ _
 |k+2,h=>cases h
theorem Q8r(cb cb':Nat)(lb lb':List (Nat×Int×Int))(co:Nat)(lo:List (Nat×Int×Unit)):(fun j=>bif Nat.beq j 0 then some (AObj.map cb' (encI eN lb'))else ouB cb lb co lo j)=ouB cb' lb' co lo:=by
 funext j
 match j with
 |0=>rfl
 |1=>rfl
 |k+2=>rfl
theorem Qhn(cb:Nat)(lb:List (Nat×Int×Int))(co co':Nat)(lo lo':List (Nat×Int×Unit)):(fun j=>bif Nat.beq j 1 then some (AObj.map co' (encI eU lo'))else ouB cb lb co lo j)=ouB cb lb co' lo':=by
 funext j
 match j with
 |0=>rfl
 |1=>rfl
 |k+2=>rfl
def FreeOk (Γ:List (Nat×List AC))(t:Tr):Prop:=∀(β:Int->Int)(m:Int)(cb:Nat)(lb:List (Nat×Int×Int))(co:Nat)(lo:List (Nat×Int×Unit))(S:List Int),(∀k,0<=β k/\β k<=m)->m+Q1z t * 1048576<=4611686018427387904->BIs β cb lb->SetIs S co lo->
 AFn Tryz.prog Γ 95 [.one (.box (cTr t)),.one (.mp (.o 0)),.one (.mp (.o 1))] (ouB cb lb co lo) (fun r ou'=>r=.tup []/\∃cb' lb' co' lo',ou'=ouB cb' lb' co' lo'/\BIs β cb' lb'/\SetIs (S++occB β t) co' lo')
theorem Qjz{o:Int}{b:List Int}{a:List Alt}{k:Int}(hb:b.length<=1048576)(ha:∀x∈a,x.binds.length<=1048576):(Q34 o b a k).length<=1048576:=by
 unfold Q34
 split
 ·exact hb
 ·split
  ·rename_i h1 h2
   obtain⟨x,hx⟩:=Q00 (l:=a) (i:=(k - 1).toNat) (by omega)
   rw[List.getD_eq_getElem?_getD,hx]
   exact ha x (List.mem_of_getElem? hx)
  ·simp
theorem Qn0{β:Int->Int}{l:List Int}{j:Nat}{n:Int}(h:l[j]?=some n)(k:Int):addB β (l.take (j+1)) k=if n=k then addB β (l.take j) n+1 else addB β (l.take j) k:=by
 unfold addB
 rw[Q0n h,List.count_append]
 by_cases e:n=k
 ·subst e;simp;omega
 ·rw[if_neg e]
  have:[n].count k=0:=by simp[List.count_cons,e]
  omega
theorem Qn1{β:Int->Int}{l:List Int}{j:Nat}{n:Int}(h:l[j]?=some n)(k:Int):addB β (l.drop (j+1)) k=if n=k then addB β (l.drop j) n - 1 else addB β (l.drop j) k:=by
 have hd:l.drop j=n::l.drop (j+1):=by
  obtain⟨h1,h2⟩:=List.getElem?_eq_some_iff.1 h
  rw[List.drop_eq_getElem_cons h1,h2]
 unfold addB
 rw[hd,List.count_cons,List.count_cons]
 by_cases e:n=k
 ·subst e;simp;omega
 ·rw[if_neg e]
  have:(n==k)=false:=by simpa using e
  rw[this];simp
theorem Qgm{β:Int->Int}{l:List Int}{m:Int}(h:∀k,0<=β k/\β k<=m)(hl:l.length<=1048576)(k:Int):0<=addB β l k/\addB β l k<=m+1048576:=by
 have h1:=h k
 have h2:=List.count_le_length (a:=k) (l:=l)
 unfold addB;omega
set_option maxHeartbeats 1000000 in
theorem Qmm(hΓ:∀g cs,(g,cs)∈Γ->idsL isO cs):∀t:Tr,okT t->FreeOk Γ t
 |.mk o n b ks a,hok=>by
  obtain⟨hb,hk,ha,⟨hab,_⟩,hks⟩:=hok
  have ih:∀t∈ks,FreeOk Γ t:=fun t ht=>Qmm hΓ t (Q4g.1 hks t ht)
  intro β m cb lb co lo S hβ hd ⟨f,hf,hfb⟩ ⟨g,hg,hgs⟩
  refine AFn.walk 73 tabOk Tryz.func95 rfl (by kernel_rfl) rfl rfl fun hou=>?_
  iterate 1 (first|((with_reducible refine oj ?_);refine zau ?_)|(with_reducible refine zst ?_)|((with_reducible refine Q0j ?_ ?_);rfl)|(with_reducible refine ok ?_;first|refine ACode.condT rfl ?_|refine ACode.condF rfl ?_))
  refine ACode.cutR hΓ (α:=Nat×List (Nat×Int×Unit)) (fun _=>[(2,.one (.mp (.o 1))),(1,.one (.mp (.o 0))),(0,.one (.box (cTr (.mk o n b ks a))))])
   (fun c => ⟨0, [], ouB cb lb c.1 c.2⟩) (fun c => SetIs (S ++ if o = 0 /\ β n = 0 then [n] else []) c.1 c.2) ?_ fun c hc => ?_
  ·by_cases ho:o=0
   ·subst ho
    repeat' first|refine zN ?_|(with_reducible refine oj ?_;refine AOps.splitS rfl rfl rfl rfl (fun hb=>?_) (fun hb=>?_))|(with_reducible refine ok ?_;first|refine ACode.condS rfl (fun hb=>?_) (fun hb=>?_)|refine ACode.cond rfl (fun hb=>?_) (fun hb=>?_))
    all_goals first
     |(exfalso;simp at hb;done)
     |skip
    refine zS (AStep.lookI eN (cm:=false) (v:=.one (int (β n))) rfl Tryz.underlying122 Tryz.underlying3 rfl rfl rfl (by kernel_rfl) zeroN hf (by simp only[Tr.n_mk];rw[←hfb n];cases f n <;> rfl)) ?_
    refine zA ?_
    refine ACode.cond rfl (fun hb=>?_) (fun hb=>?_)
    ·have h0:β n=0:=by simpa using hb
     refine zA ?_
     refine zS (AStep.buildU rfl Tryz.underlying141 (by kernel_rfl)) ?_
     refine AOps.putI eU (v:=()) rfl rfl rfl Tryz.underlying137 Tryz.underlying3 rfl rfl rfl rfl hg fun ck' l' hf'=>?_
     refine zA ?_
     exact cInv ⟨(ck',l'),id,⟨_,hf',by rw[if_pos ⟨rfl,h0⟩];exact Qfo hgs n⟩,LessR.of rfl zFS (by simp) .nil rfl (Qhn cb lb co ck' lo l').symm (by rw[show (St.set ⟨0,[],ouB cb lb co lo⟩ (.o 1) (.map ck' (encI eU l'))).ou=ouB cb lb ck' l' from Qhn cb lb co ck' lo l'];exact Q9m _ _ _ _)⟩
    ·have h0:¬β n=0:=by simpa using hb
     refine zA ?_
     exact cInv ⟨(co,lo),id,⟨g,hg,by rw[if_neg (fun h=>h0 h.2)];simpa using hgs⟩,LessR.of rfl zFS (by simp) .nil rfl rfl hou⟩
   ·have hcd:((Tr.mk o n b ks a).op==0)=false:=by simpa using ho
    repeat' first|refine zN ?_|(with_reducible refine oj ?_;refine AOps.splitS rfl rfl rfl rfl (fun hb=>?_) (fun hb=>?_))|(with_reducible refine ok ?_;first|refine ACode.condS rfl (fun hb=>?_) (fun hb=>?_)|refine ACode.cond rfl (fun hb=>?_) (fun hb=>?_))
    all_goals first
     |(exfalso;rw[hcd]at hb;cases hb;done)
     |exact cInv ⟨(co,lo),id,⟨g,hg,by rw[if_neg (fun h=>ho h.1)];simpa using hgs⟩,LessR.of rfl zFS (by simp) .nil rfl rfl hou⟩
  ·obtain⟨co,lo⟩:=c
   simp only at hc
   clear hgs hg g hou
   have hou:OuOk (ouB cb lb co lo):=Q9m _ _ _ _
   refine zA ?_
   refine ACode.loopR hΓ (α:=Nat×(Nat×List (Nat×Int×Int))×(Nat×List (Nat×Int×Unit))) (fun c=>[(38,.one (int c.1)),(37,.one (int (Q10 ks).length)),(36,.one (.sl 1 (Q10 ks))),(2,.one (.mp (.o 1))),(1,.one (.mp (.o 0))),(0,.one (.box (cTr (.mk o n b ks a))))])
    (fun c=>⟨0,[],ouB c.2.1.1 c.2.1.2 c.2.2.1 c.2.2.2⟩) (fun m c=>c.1<=ks.length/\BIs β c.2.1.1 c.2.1.2/\SetIs (S++(if o=0/\β n=0 then [n]else [])++occBs β o b a 0 (ks.take c.1)) c.2.2.1 c.2.2.2/\m=ks.length - c.1)
    (a0:=(0,(cb,lb),(co,lo))) (ρ:=id) ⟨by omega,⟨f,hf,hfb⟩,by simpa[occBs]using hc,rfl⟩ (LessR.of rfl zFS (by simp) .nil rfl rfl hou) fun m' c hi=>?_
   clear hc hf hfb f hou
   obtain⟨i,⟨cb,lb⟩,co,lo⟩:=c
   obtain⟨hil,hB,hS,rfl⟩:=hi
   simp only at hil hB hS
   have hou:OuOk (ouB cb lb co lo):=Q9m _ _ _ _
   refine zA ?_
   refine ACode.cond rfl (fun hb2=>?_) (fun hb2=>?_)
   ·have hlt:i < ks.length:=by simpa using hb2
    obtain⟨t,ht⟩:=Q00 hlt
    have htm:=List.mem_of_getElem? ht
    have hbn:=Qpf hΓ (.mk o n b ks a) (i:Int) (by omega) ha
    have hll:=Qjz (o:=o) (k:=(i:Int)) hb hab
    have hsn:=Qbe β o b a t (ks.take i) 0
    rw[←Q0n ht]at hsn
    have hmin:(ks.take i).length=i:=by simp;omega
    rw[hmin,Nat.zero_add]at hsn
    simp only[Tr.op_mk,Tr.binds_mk,Tr.alts_mk]at hbn
    generalize Q34 o b a (i:Int)=l at hbn hll hsn
    have hdk:=Qmp (o:=o) (n:=n) (b:=b) (a:=a) htm
    refine zA ?_
    refine zS (zIA rfl rfl rfl (by omega) (Q1v ht)) ?_
    refine zA ?_
    refine zca hΓ hbn hou ?_
    refine zA ?_
    refine ACode.loopR hΓ (α:=Nat×Nat×List (Nat×Int×Int)) (fun c=>[(48,.one (int c.1)),(47,.one (int (l.map cI).length)),(46,.one (.sl 1 (l.map cI))),(8,.one (.sl 1 (l.map cI))),(7,.one (.box (cTr t))),(38,.one (int i)),(37,.one (int (Q10 ks).length)),(36,.one (.sl 1 (Q10 ks))),(2,.one (.mp (.o 1))),(1,.one (.mp (.o 0))),(0,.one (.box (cTr (.mk o n b ks a))))])
     (fun c=>⟨0,[],ouB c.2.1 c.2.2 co lo⟩) (fun m c=>c.1<=l.length/\BIs (addB β (l.take c.1)) c.2.1 c.2.2/\m=l.length - c.1) (a0:=(0,cb,lb)) (ρ:=id) ⟨by omega,by simpa[BIs,addB]using hB,rfl⟩ (LessR.of rfl zFS (by simp) .nil rfl rfl hou) fun m' c hj=>?_
    clear hB hou
    obtain⟨j,cb,lb⟩:=c
    obtain⟨hjl,⟨f,hf,hfb⟩,rfl⟩:=hj
    simp only at hjl hf hfb
    have hou:OuOk (ouB cb lb co lo):=Q9m _ _ _ _
    refine zA ?_
    refine ACode.cond rfl (fun hb3=>?_) (fun hb3=>?_)
    ·have hlt2:j < l.length:=by simpa using hb3
     obtain⟨q,hq⟩:=Q00 hlt2
     have hv:=Qgm (l:=l.take j) hβ (by simp;omega) q
     have hdp:=Qey t
     refine zA ?_
     refine zS (zIA rfl rfl rfl (by omega) (Q04 hq)) ?_
     refine zA ?_
     refine zS (AStep.lookI eN (cm:=false) (v:=.one (int (addB β (l.take j) q))) rfl Tryz.underlying122 Tryz.underlying3 rfl rfl rfl (by kernel_rfl) zeroN hf (by rw[←hfb q];cases f q <;> rfl)) ?_
     refine zS (AStep.arith rfl rfl rfl (.inl ⟨rfl,rfl⟩) zI) ?_
     refine AOps.putI eN (v:=addB β (l.take j) q+1) rfl rfl rfl Tryz.underlying122 Tryz.underlying3 rfl rfl rfl rfl hf fun ck' l' hf'=>?_
     refine zM ?_
     refine cInv ⟨l.length - (j+1),(j+1,ck',l'),id,by omega,⟨by omega,⟨_,hf',fun k=>?_⟩,rfl⟩,LessR.of rfl zFS (by simp) .nil rfl (Q8r cb ck' lb l' co lo).symm (by rw[show (St.set ⟨0,[],ouB cb lb co lo⟩ (.o 0) (.map ck' (encI eN l'))).ou=ouB ck' l' co lo from Q8r cb ck' lb l' co lo];exact Q9m _ _ _ _)⟩
     rw[BIs.put hfb,Qn0 hq]
    have hlt2:j=l.length:=by simp at hb3;omega
    subst hlt2
    rw[List.take_length]at hfb
    have hcall:=ih t htm (addB β l) (m+1048576) cb lb co lo (S++(if o=0/\β n=0 then [n]else [])++occBs β o b a 0 (ks.take i)) (Qgm hβ hll) (by omega) ⟨f,hf,hfb⟩ hS
    clear hf hfb f
    refine zA ?_
    refine AOps.call1 hΓ rfl rfl rfl rfl rfl rfl rfl (by simp) hou hcall fun r ou' hq hids hou'=>?_
    obtain⟨rfl,cb,lb,co,lo,rfl,hB,hS2⟩:=hq
    rw[List.append_assoc,←hsn]at hS2
    refine zA ?_
    refine ACode.loopR hΓ (α:=Nat×Nat×List (Nat×Int×Int)) (fun c=>[(63,.one (int c.1)),(62,.one (int (l.map cI).length)),(61,.one (.sl 1 (l.map cI))),(38,.one (int i)),(37,.one (int (Q10 ks).length)),(36,.one (.sl 1 (Q10 ks))),(2,.one (.mp (.o 1))),(1,.one (.mp (.o 0))),(0,.one (.box (cTr (.mk o n b ks a))))])
     (fun c=>⟨0,[],ouB c.2.1 c.2.2 co lo⟩) (fun m c=>c.1<=l.length/\BIs (addB β (l.drop c.1)) c.2.1 c.2.2/\m=l.length - c.1) (a0:=(0,cb,lb)) (ρ:=id) ⟨by omega,by simpa using hB,rfl⟩ (LessR.of rfl zFS (by simp) .nil rfl rfl hou') fun m' c hj=>?_
    clear hB hou hou'
    obtain⟨j,cb,lb⟩:=c
    obtain⟨hjl,⟨f,hf,hfb⟩,rfl⟩:=hj
    simp only at hjl hf hfb
    have hou:OuOk (ouB cb lb co lo):=Q9m _ _ _ _
    refine zA ?_
    refine ACode.cond rfl (fun hb4=>?_) (fun hb4=>?_)
    ·have hlt2:j < l.length:=by simpa using hb4
     obtain⟨q,hq⟩:=Q00 hlt2
     have hv:=Qgm (l:=l.drop j) hβ (by simp;omega) q
     have hdp:=Qey t
     refine zA ?_
     refine zS (zIA rfl rfl rfl (by omega) (Q04 hq)) ?_
     refine zA ?_
     refine zS (AStep.lookI eN (cm:=false) (v:=.one (int (addB β (l.drop j) q))) rfl Tryz.underlying122 Tryz.underlying3 rfl rfl rfl (by kernel_rfl) zeroN hf (by rw[←hfb q];cases f q <;> rfl)) ?_
     refine zS (AStep.arith rfl rfl rfl (.inr (.inl ⟨rfl,rfl⟩)) zI) ?_
     refine AOps.putI eN (v:=addB β (l.drop j) q - 1) rfl rfl rfl Tryz.underlying122 Tryz.underlying3 rfl rfl rfl rfl hf fun ck' l' hf'=>?_
     refine zM ?_
     refine cInv ⟨l.length - (j+1),(j+1,ck',l'),id,by omega,⟨by omega,⟨_,hf',fun k=>?_⟩,rfl⟩,LessR.of rfl zFS (by simp) .nil rfl (Q8r cb ck' lb l' co lo).symm (by rw[show (St.set ⟨0,[],ouB cb lb co lo⟩ (.o 0) (.map ck' (encI eN l'))).ou=ouB ck' l' co lo from Q8r cb ck' lb l' co lo];exact Q9m _ _ _ _)⟩
     rw[BIs.put hfb,Qn1 hq]
    ·have hlt2:j=l.length:=by simp at hb4;omega
     subst hlt2
     rw[List.drop_length]at hfb
     refine zM ?_
     exact cInv ⟨ks.length - (i+1),(i+1,(cb,lb),(co,lo)),id,by omega,⟨by omega,⟨f,hf,fun k=>by rw[hfb k];simp[addB]⟩,hS2,rfl⟩,LessR.of rfl zFS (by simp) .nil rfl rfl hou⟩
   ·have hlt:i=ks.length:=by simp at hb2;omega
    subst hlt
    rw[List.take_length,List.append_assoc]at hS
    refine zA ?_
    exact AFn.fin' rfl (WkF.refl _) (by simp) hou ⟨rfl,cb,lb,co,lo,rfl,hB,by simpa only [occB]using hS⟩
end Go.Proofs.YtpaonemmbhbgoaaGreatDoor
namespace Go.CoreX
theorem Q67(n k:Int):∀l:List Int,k∈Q5a n l↔k=n∨k∈l
 | [] => by simp [Q5a]
 |m::l=>by
  simp only[Q5a]
  split
  ·simp
  ·split
   ·rename_i h1 h2
    subst h2
    simp
   ·simp only[List.mem_cons,Q67 n k l]
    constructor
    ·rintro (h|h|h) <;> simp[h]
    ·rintro (h|h|h) <;> simp[h]
theorem Q5x(n:Int):∀l:List Int,l.Pairwise (· < ·)->(Q5a n l).Pairwise (· < ·)
 | [], _ => by simp [Q5a]
 |m::l,h=>by
  simp only[List.pairwise_cons]at h
  simp only[Q5a]
  split
  ·rename_i h1
   simp only[List.pairwise_cons,List.mem_cons,forall_eq_or_imp]
   exact⟨⟨h1,fun a ha=>by have:=h.1 a ha;omega⟩,h.1,h.2⟩
  ·split
   ·simp only[List.pairwise_cons];exact h
   ·rename_i h1 h2
    simp only[List.pairwise_cons]
    refine⟨fun a ha=>?_,Q5x n l h.2⟩
    rcases (Q67 n a l).1 ha with rfl|ha
    ·omega
    ·exact h.1 a ha
theorem Q6m(k:Int):∀l:List Int,k∈sortS l↔k∈l
 |[]=>by simp[sortS]
 |n::l=>by
  have ih:=Q6m k l
  unfold sortS at ih ⊢
  rw[List.foldr_cons,Q67,ih,List.mem_cons]
theorem Q52:∀l:List Int,(sortS l).Pairwise (· < ·)
 |[]=>by simp[sortS]
 |n::l=>by
  have ih:=Q52 l
  unfold sortS at ih ⊢
  rw[List.foldr_cons]
  exact Q5x n _ ih
theorem Q6l:∀{l r:List Int},l.Pairwise (· < ·)->r.Pairwise (· < ·)->(∀k,k∈l↔k∈r)->l=r
 | [], [], _, _, _ => rfl
 | [], b :: r, _, _, h => by have := (h b).2 (by simp); simp at this
 |a::l,[],_,_,h=>by have:=(h a).1 (by simp);simp at this
 |a::l,b::r,hl,hr,h=>by
  simp only[List.pairwise_cons]at hl hr
  have hab:a=b:=by
   have h1:=(h a).1 (by simp)
   have h2:=(h b).2 (by simp)
   rcases List.mem_cons.1 h1 with h1|h1
   ·exact h1
   ·rcases List.mem_cons.1 h2 with h2|h2
    ·exact h2.symm
    ·have:=hr.1 a h1
     have:=hl.1 b h2
     omega
  subst hab
  congr 1
  refine Q6l hl.2 hr.2 fun k=>⟨fun hk=>?_,fun hk=>?_⟩
  ·rcases List.mem_cons.1 ((h k).1 (List.mem_cons_of_mem _ hk))with e|e
   ·have:=hl.1 k hk;omega
   ·exact e
  ·rcases List.mem_cons.1 ((h k).2 (List.mem_cons_of_mem _ hk))with e|e
   ·have:=hr.1 k hk;omega
   ·exact e
theorem sort_eq{keys m:List Int}(hn:keys.Nodup)(h:∀k,k∈keys↔k∈m):(keys.mergeSort fun x y=>decide (x<=y))=sortS m:=by
 have hp:=List.mergeSort_perm keys (fun x y:Int=>decide (x<=y))
 have hs:(keys.mergeSort fun x y=>decide (x<=y)).Pairwise (fun x y=>decide (x<=y)=true):=List.pairwise_mergeSort (fun a b c h1 h2=>by simp only[decide_eq_true_eq]at *;omega) (fun a b=>by simp only[Bool.or_eq_true,decide_eq_true_eq];omega) keys
 have hd:(keys.mergeSort fun x y=>decide (x<=y)).Nodup:=hp.nodup_iff.2 hn
 refine Q6l ?_ (Q52 m) fun k=>?_
 ·have:=hs.and hd
  refine this.imp fun {a b} hab=>?_
  have h1:=of_decide_eq_true hab.1
  have h2:=hab.2
  omega
 ·rw[Q6m,←h k];exact hp.mem_iff
mutual
theorem occ_eq:∀(t:Tr)(sc:List Int)(β:Int->Int),(∀k,β k=0↔sc.contains k=false)->(∀k,0<=β k)->occT sc t=occB β t
 |.mk o n b k a,sc,β,h,h0=>by
  simp only[occT,occB]
  rw[Qln k sc β o b a 0 h h0]
  congr 1
  by_cases e:o=0/\β n=0
  ·rw[if_pos e,if_pos ⟨e.1,(h n).1 e.2⟩]
  ·rw[if_neg e,if_neg (fun h2=>e ⟨h2.1,(h n).2 h2.2⟩)]
theorem Qln:∀(l:List Tr)(sc:List Int)(β:Int->Int)(o:Int)(b:List Int)(a:List Alt)(i:Nat),(∀k,β k=0↔sc.contains k=false)->(∀k,0<=β k)->occTs sc o b a i l=occBs β o b a i l
 | [], _, _, _, _, _, _, _, _ => by simp [occTs, occBs]
 |t::l,sc,β,o,b,a,i,h,h0=>by
  simp only[occTs,occBs]
  rw[Qln l sc β o b a (i+1) h h0,occ_eq t (Q34 o b a i++sc) (addB β (Q34 o b a i)) (fun k=>?_) (fun k=>?_)]
  ·unfold addB
   have h1:=h k
   have h2:=h0 k
   have h3:(Q34 o b a i).count k=0↔(Q34 o b a i).contains k=false:=by
    rw[List.count_eq_zero];simp
   simp only[List.contains_eq_mem,List.mem_append,decide_eq_false_iff_not,not_or]at *
   constructor
   ·intro h4
    exact⟨h3.1 (by omega),h1.1 (by omega)⟩
   ·rintro⟨h4,h5⟩
    have:=h3.2 h4
    have:=h1.2 h5
    omega
  ·unfold addB
   have:=h0 k
   omega
end
theorem Qa6(t:Tr):Q3n t=sortS (occB (fun _=>0) t):=by
 unfold Q3n
 rw[occ_eq t [] (fun _=>0) (fun k=>by simp) (fun k=>by simp)]
end Go.CoreX
namespace Go.CoreX
theorem Qcq{α:Type} [DecidableEq α]:∀{l m:List α},l.Nodup->(∀x∈l,x∈m)->l.length<=m.length
 |[],m,_,_=>by simp
 |a::l,m,hn,h=>by
  simp only[List.nodup_cons]at hn
  have ha:=h a (by simp)
  have:=Qcq (l:=l) (m:=m.erase a) hn.2 fun x hx=>by
   have hne:x≠a:=fun e=>hn.1 (e▸hx)
   exact (List.mem_erase_of_ne hne).2 (h x (by simp[hx]))
  rw[List.length_erase_of_mem ha]at this
  have:=List.length_pos_of_mem ha
  simp only[List.length_cons];omega
mutual
theorem Qcp:∀(t:Tr)(β:Int->Int)(out:List Ex),(occB β t).length+out.length<=(listT out t).length
 |.mk o n b k a,β,out=>by
  have:=Qee k β o b a 0 out
  simp only[occB,listT,List.length_append,List.length_singleton]
  split <;> simp <;> omega
theorem Qee:∀(l:List Tr)(β:Int->Int)(o:Int)(b:List Int)(a:List Alt)(i:Nat)(out:List Ex),(occBs β o b a i l).length+out.length<=(Q02 out l).1.length
 |[],_,_,_,_,_,out=>by simp[occBs,Q02]
 |t::l,β,o,b,a,i,out=>by
  have h1:=Qcp t (addB β (Q34 o b a i)) out
  have h2:=Qee l β o b a (i+1) (listT out t)
  simp only[occBs,Q02,List.length_append];omega
end
end Go.CoreX
namespace Go.Proofs.YtpaonemmbhbgoaaGreatDoor
open Go Go.Abs Go.CoreX Go.Sort
variable {Γ:List (Nat×List AC)}
def SortOk:Prop:=∀(blk off cap:Nat)(zs:List Int)(w:World),Holds (Value.int .i64) w blk off zs.toArray->blk < w.heap.size->zs.length < 4611686018427387904->Calls Tryz.prog 96 #[.slice (some ⟨blk,off,none⟩) zs.length cap] w fun e w'=>
 e=.returned (.tuple #[])/\∃n os,w'=grow (putRow (Value.int .i64) (Sort.ahead w n) blk off (zs.mergeSort fun x y=>decide (x<=y)).toArray) os
def Qn5:Prop:=∀w:World,Calls Tryz.prog 96 #[.slice none 0 0] w fun e w'=>e=.returned (.tuple #[])/\w'=w
theorem Qb4(us:Array Value)(w:World):(callFunc 96 us).run Tryz.prog w=.ok (.enter 96 us) w:=by
 have h1:Tryz.prog.funcs[96]?=some Tryz.f96:=Tryz.func96
 simp[callFunc,h1]
 rfl
def leftM (l:List (Nat×Int×Unit))(seen:List Nat):Nat:=(l.filter fun x=>decide (x.1∉seen)).length
theorem Qbj{l:List (Nat×Int×Unit)}{seen:List Nat}{x:Nat×Int×Unit}(hx:x∈l)(hb:x.1∉seen):leftM l (seen++[x.1]) < leftM l seen:=by
 unfold leftM
 induction l with
 |nil=>cases hx
 |cons y l ih=>
  have hmono:∀l:List (Nat×Int×Unit),(l.filter fun z=>decide (z.1∉seen++[x.1])).length<=(l.filter fun z=>decide (z.1∉seen)).length:=fun l=>by
   induction l with
   |nil=>simp
   |cons z l ih=>
    simp only[List.filter_cons]
    split <;> split <;> simp_all <;> omega
  simp only[List.filter_cons]
  rcases List.mem_cons.1 hx with rfl|hx
  ·have:=hmono l
   rw[if_neg (by simp),if_pos (by simpa using hb)]
   simp only[List.length_cons];omega
  ·have:=ih hx
   split <;> split <;> simp_all <;> omega
theorem pair_of{l:List (Nat×Int×Unit)}(hk:(l.map (·.2.1)).Nodup){x y:Nat×Int×Unit}(hx:x∈l)(hy:y∈l)(h:x.2.1=y.2.1):x=y:=by
 induction l with
 |nil=>cases hx
 |cons z l ih=>
  simp only[List.map_cons,List.nodup_cons]at hk
  rcases List.mem_cons.1 hx with e1|h1
  ·rcases List.mem_cons.1 hy with e2|h2
   ·rw[e1,e2]
   ·exact absurd (List.mem_map.2 ⟨y,h2,by rw[←h,e1]⟩:z.2.1∈l.map (·.2.1)) hk.1
  ·rcases List.mem_cons.1 hy with e2|h2
   ·exact absurd (List.mem_map.2 ⟨x,h1,by rw[h,e2]⟩:z.2.1∈l.map (·.2.1)) hk.1
   ·exact ih hk.2 h1 h2
theorem Qbn{l zs:List (Nat×Int×Unit)}(hk:(l.map (·.2.1)).Nodup):∀{zs:List (Nat×Int×Unit)},(∀x∈zs,x∈l)->(zs.map (·.1)).Nodup->(zs.map (·.2.1)).Nodup
 |[],_,_=>by simp
 |x::zs,h,hn=>by
  simp only[List.map_cons,List.nodup_cons]at hn ⊢
  refine⟨fun hm=>?_,Qbn (zs:=zs) hk (fun y hy=>h y (by simp[hy])) hn.2⟩
  obtain⟨y,hy,e⟩:=List.mem_map.1 hm
  have:=pair_of hk (h x (by simp)) (h y (by simp[hy])) e.symm
  exact hn.1 (List.mem_map.2 ⟨y,hy,by rw[this]⟩)
@[simp] theorem Q8v (p : Abs.Id -> Prop) (l : List Int) (cap : Nat) : idsL p (vec 1 (l.map cI) cap) := by
 unfold vec
 have e:(l.map cI).flatten=l.map int:=by
  induction l with
  |nil=>rfl
  |cons n l ih=>simp only[List.map_cons,List.flatten_cons,ih];rfl
 rw[e]
 refine Q8w (Qd1 p l) ?_
 generalize (cap - (l.map cI).length) * 1=q
 induction q with
 |zero=>simp
 |succ q ih=>rw[List.replicate_succ];exact⟨trivial,ih⟩
@[simp] theorem Qnq (θ:Abs.Id->Abs.Id) (ck:Nat) (l:List (Nat×Int×Unit)):AObj.sub θ (.map ck (encI eU l))=.map ck (encI eU l):=by
 simp[AObj.sub,encI,eU,FV.sub,subL,Function.comp_def]
theorem Qex{β:Type}{enc:β->FV}{f:Int->Option β}{ck:Nat}{l:List (Nat×Int×β)}(h:IMOk f ck l):∀x∈encI enc l,x.1 < ck:=fun x hx=>by
 simp only[encI,List.mem_map]at hx
 obtain⟨y,hy,rfl⟩:=hx
 exact h.born y hy
theorem Qii{β:Type}{enc:β->FV}{l:List (Nat×Int×β)}:∀x∈encI enc l,x.2.1.oneCell'=true:=fun x hx=>by
 simp only[encI,List.mem_map]at hx
 obtain⟨y,hy,rfl⟩:=hx
 rfl
theorem Qad{β:Type}{enc:β->FV}:∀{l:List (Nat×Int×β)}{x:Nat×Int×β},(l.map (·.1)).Nodup->x∈l->(encI enc l).find? (fun y=>y.1==x.1)=some (x.1,.int .i64 x.2.1,enc x.2.2)
 |y::l,x,hn,hx=>by
  simp only[List.map_cons,List.nodup_cons]at hn
  rcases List.mem_cons.1 hx with rfl|h
  ·simp[encI]
  ·have hne:y.1≠x.1:=fun e=>hn.1 (List.mem_map.2 ⟨_,h,e.symm⟩)
   have:=Qad (enc:=enc) hn.2 h
   simp only[encI,List.map_cons,List.find?_cons]at this ⊢
   rw[beq_eq_false_iff_ne.2 hne]
   exact this
theorem Qmw{l:List (Nat×Int×Unit)}(hk:(l.map (·.1)).Nodup){x y:Nat×Int×Unit}(hx:x∈l)(hy:y∈l)(h:x.1=y.1):x=y:=by
 induction l with
 |nil=>cases hx
 |cons z l ih=>
  simp only[List.map_cons,List.nodup_cons]at hk
  rcases List.mem_cons.1 hx with e1|h1
  ·rcases List.mem_cons.1 hy with e2|h2
   ·rw[e1,e2]
   ·exact absurd (List.mem_map.2 ⟨y,h2,by rw[←h,e1]⟩:z.1∈l.map (·.1)) hk.1
  ·rcases List.mem_cons.1 hy with e2|h2
   ·exact absurd (List.mem_map.2 ⟨x,h1,by rw[h,e2]⟩:z.1∈l.map (·.1)) hk.1
   ·exact ih hk.2 h1 h2
theorem Qi2{f:Int->Option Unit}{ck:Nat}{l:List (Nat×Int×Unit)}(h:IMOk f ck l)(k:Int):(f k).isSome=true↔∃x∈l,x.2.1=k:=by
 rw[←h.look k]
 cases hf:l.find? (fun x=>x.2.1==k) with
 |none=>
  simp only[Option.map_none,Option.isSome_none,Bool.false_eq_true,false_iff]
  rintro⟨x,hx,e⟩
  have:=List.find?_eq_none.1 hf x hx
  simp[e]at this
 |some x=>
  simp only[Option.map_some,Option.isSome_some,true_iff]
  have h1:=List.find?_some hf
  exact⟨x,List.mem_of_find?_eq_some hf,by simpa using h1⟩
def keyL (zs:List (Nat×Int×Unit)):List Int:=zs.map (·.2.1)
def bornL (zs:List (Nat×Int×Unit)):List Nat:=zs.map (·.1)
set_option maxHeartbeats 1000000 in
theorem Qna(hΓ:∀g cs,(g,cs)∈Γ->idsL isO cs)(hΓF:∀g cs,(g,cs)∈Γ->idsL (fun _=>False) cs)(hs:SortOk)(hn:Qn5)(t:Tr)(ht:okT t)(hd:Q1z t<=1048576)(hsz:(listT [] t).length<=1048576):
  APure Tryz.prog Γ 67 [.one (.box (cTr t))] (.one (.sl 1 ((Q3n t).map cI))):=by
 intro ou
 refine AFn.walk 24 tabOk Tryz.func67 rfl (by kernel_rfl) rfl rfl fun hou=>?_
 refine zA ?_
 refine zS (AStep.makeMap rfl) ?_
 refine zA ?_
 refine zS (AStep.makeMap rfl) ?_
 refine zA ?_
 refine AOps.callR [.l 1,.l 0] [.one (.box (cTr t)),.one (.mp (.o 0)),.one (.mp (.o 1))] [.map 0 (encI eN []),.map 0 (encI eU [])] hΓF rfl rfl rfl rfl rfl rfl ?_ ?_ ?_ ?_ ?_ (Qmm hΓ t ht (fun _=>0) 0 0 [] 0 [] [] (fun k=>by simp) (by omega) ⟨_,IMOk.nil,fun k=>rfl⟩ SetIs.nil) ?_
 ·simp[subF,FV.sub,AC.sub,nameOf]
  exact⟨(Q1q _ _ (by simp)).symm,rfl⟩
 ·simp[inO]
 ·simp
 ·exact⟨rfl,rfl,trivial⟩
 ·simp[inO]
 intro r ou' hq
 obtain⟨rfl,cb,lb,co,lo,rfl,hB,g,hg,hgs⟩:=hq
 rw[List.nil_append]at hgs
 refine⟨[.map cb (encI eN lb),.map co (encI eU lo)],rfl,rfl,by simp[inO],by simp,?_⟩
 refine zA ?_
 refine zS (AStep.rangeMap rfl Tryz.underlying137 rfl rfl) ?_
 refine zA ?_
 refine ACode.loopR hΓ (α:=List (Nat×Int×Unit)×Option Nat) (fun a=>[(12,.one (.ptr (.l 2) 0)),(4,match a.2 with|none=>.one (.lit (.slice none 0 0))|some cap=>.one (.arr (.l 3) 1 0 ((keyL a.1).map cI).length cap))])
  (fun a=>match a.2 with|none=>⟨3,[(2,.iter (.l 0) co (bornL a.1) co),(0,.map co (encI eU lo))],ou⟩|some cap=>⟨4,[(3,.cells (vec 1 ((keyL a.1).map cI) cap)),(2,.iter (.l 0) co (bornL a.1) co),(0,.map co (encI eU lo))],ou⟩)
  (fun m a=>(∀x∈a.1,x∈lo)/\(bornL a.1).Nodup/\(match a.2 with|none=>a.1=[]|some cap=>a.1.length<=cap)/\m=leftM lo (bornL a.1)) (a0:=([],none)) (ρ:=id) ⟨by simp,by simp[bornL],rfl,rfl⟩ (LessR.of rfl ?_ ?_ ?_ rfl rfl hou) fun m a hj=>?_
 ·(repeat' first|exact FrSub.nil|refine zfc ?_|refine zfo ?_|refine zfp ?_)
 ·simp
 ·repeat' first|exact LoSub.nil|refine zlc ?_|refine zld ?_ ?_|rfl
  all_goals (rw[Qnq,Qci])
 obtain⟨zs,oc⟩:=a
 obtain⟨hzs,hnd,hcap,rfl⟩:=hj
 simp only at hzs hnd hcap
 have hin:∀k,k∈keyL zs->k∈occB (fun _=>0) t:=fun k hk=>by
  obtain⟨x,hx,rfl⟩:=List.mem_map.1 hk
  have h1:=(Qi2 hg x.2.1).2 ⟨x,hzs x hx,rfl⟩
  rw[hgs]at h1
  simpa using h1
 have hkn:(keyL zs).Nodup:=Qbn (zs:=zs) hg.nk hzs hnd
 have hkl:(keyL zs).length<=1048576:=by
  have h1:=Qcq hkn hin
  have h2:=Qcp t (fun _=>0) []
  simp at h2
  omega
 have hend':(∀x∈encI eU lo,x.1∈bornL zs)->(keyL zs).mergeSort (fun x y=>decide (x<=y))=Q3n t:=fun hend=>by
  rw[Qa6]
  refine sort_eq hkn fun k=>⟨hin k,fun hk=>?_⟩
  have h1:(g k).isSome=true:=by rw[hgs];simpa using hk
  obtain⟨x,hx,rfl⟩:=(Qi2 hg k).1 h1
  have h2:=hend (x.1,.int .i64 x.2.1,eU x.2.2) (List.mem_map.2 ⟨x,hx,rfl⟩)
  obtain⟨y,hy,e⟩:=List.mem_map.1 h2
  have:=Qmw hg.nb (hzs y hy) hx e
  subst this
  exact List.mem_map.2 ⟨y,hy,rfl⟩
 cases oc with
 |none=>
  subst hcap
  refine zA ?_
  refine AOps.nextMap rfl rfl rfl rfl rfl rfl rfl (Qex hg) (Nat.le_refl _) Qii (fun hend=>?_) (fun b u v hmem hnew=>?_)
  ·refine zA ?_
   refine AOps.callNo rfl rfl rfl rfl rfl rfl Qb4 hn ?_
   refine zA ?_
   have h1:=hend' hend
   refine APure.fin rfl (.trans (.one (.nilS 1)) (.ofEq ?_)) (by simp) hou rfl
   rw[←h1];simp[keyL]
  ·obtain⟨rfl,x,hx,rfl,rfl,_⟩:=(Qht _ _ _ _).1 hmem
   obtain⟨bx,k,⟨⟩⟩:=x
   refine zA ?_
   refine zS (AStep.entry (last:=0) (u:=.int .i64 k) (v:=.agg []) rfl rfl rfl rfl (Qad hg.nb hx) rfl) ?_
   refine zA ?_
   refine AOps.appOwn tabOk rfl rfl rfl rfl rfl rfl rfl rfl rfl (.nil 1) (.sl 1 [cI k]) (by simp) rfl (by simp;show 1 * 8<=_;omega) (by simp) fun cap hc=>?_
   refine zM ?_
   refine cInv ⟨leftM lo (bornL [(bx,k,())]),([(bx,k,())],some cap),id,Qbj (x:=(bx,k,())) hx hnew,⟨by simpa using hx,by simp[bornL],by simpa using hc,rfl⟩,LessR.of rfl ?_ (by simp) ?_ rfl rfl hou⟩
   ·exact FrSub.cons rfl (.ofEq rfl) (FrSub.cons rfl (.ofEq rfl) .nil)
   ·refine LoSub.cons rfl ?_ rfl (by simp) (LoSub.cons rfl ?_ rfl (by simp) (LoSub.cons rfl (Qci _ _ _).symm rfl (by simp) .nil))
    ·rw[AObj.ren_pure _ _ (by simp)];simp[keyL]
    ·simp[AObj.ren,bornL];rfl
 |some cap=>
  refine zA ?_
  refine AOps.nextMap rfl rfl rfl rfl rfl rfl rfl (Qex hg) (Nat.le_refl _) Qii (fun hend=>?_) (fun b u v hmem hnew=>?_)
  ·have h1:=hend' hend
   refine zA ?_
   refine AOps.wk 21 rfl (y:=.one (.arr (.l 3) 1 0 (keyL zs).length cap)) (.ofEq (by simp)) ?_
   refine AOps.sortI (l:=keyL zs) rfl rfl rfl rfl rfl rfl Qb4 hs rfl (by omega) ?_
   rw[h1]
   refine AOps.wk 4 rfl (y:=.one (.arr (.l 3) 1 0 ((Q3n t).map iC).length cap)) (.ofEq (by rw[←h1];simp)) ?_
   refine AOps.freezeArr (.l 3) 4 rfl (by simp) rfl ?_
   refine zA ?_
   exact APure.fin rfl (WkF.ofEq rfl) (by simp) hou rfl
  ·obtain⟨rfl,x,hx,rfl,rfl,_⟩:=(Qht _ _ _ _).1 hmem
   obtain⟨bx,k,⟨⟩⟩:=x
   refine zA ?_
   refine zS (AStep.entry (last:=0) (u:=.int .i64 k) (v:=.agg []) rfl rfl rfl rfl (Qad hg.nb hx) rfl) ?_
   refine zA ?_
   have hzl:((keyL zs).map cI).length=zs.length:=by simp[keyL]
   refine AOps.appOwn tabOk rfl rfl rfl rfl rfl rfl rfl rfl rfl (.own 1 cap ((keyL zs).map cI) (.l 3) rfl (by simp[cI]) (by rw[hzl];exact hcap)) (.sl 1 [cI k]) (by simp) rfl (by simp;show (_+1) * 8<=_;omega) (by simp;omega) fun cap' hc=>?_
   refine zM ?_
   refine cInv ⟨leftM lo (bornL (zs++[(bx,k,())])),(zs++[(bx,k,())],some cap'),fun k=>if k=3 then 4 else k,by have:=Qbj (x:=(bx,k,())) hx hnew;simpa[bornL]using this,⟨?_,?_,by simpa[keyL]using hc,rfl⟩,LessR.of rfl ?_ (by simp) ?_ rfl rfl hou⟩
   ·intro y hy
    rcases List.mem_append.1 hy with hy|hy
    ·exact hzs y hy
    ·simp at hy;subst hy;exact hx
   ·simp only[bornL,List.map_append,List.map_cons,List.map_nil]
    rw[List.nodup_append]
    refine⟨hnd,by simp,fun a ha b hb e=>?_⟩
    simp at hb
    subst hb;subst e
    exact hnew ha
   ·exact FrSub.cons rfl (.ofEq rfl) (FrSub.cons rfl (.ofEq (by simp[keyL,FV.ren,AC.ren];rfl)) .nil)
   ·refine LoSub.cons rfl ?_ rfl (by simp) (LoSub.cons rfl ?_ rfl (by simp) (LoSub.cons rfl (Qci _ _ _).symm rfl (by simp) .nil))
    ·rw[AObj.ren_pure _ _ (by simp)];simp[keyL]
    ·simp[AObj.ren,bornL];rfl
end Go.Proofs.YtpaonemmbhbgoaaGreatDoor
namespace Go.CoreX
theorem Q7j:∀{l r:List Int}{i:Nat}{x y:Int}{m:Nm},l[i]?=some x->r[i]?=some y->putsN m (l.take (i+1)) (r.take (i+1))=setN (putsN m (l.take i) (r.take i)) x y
 |[],_,i,x,y,m,h,_=>by simp at h
 |a::l,[],i,x,y,m,_,h=>by simp at h
 |a::l,b::r,0,x,y,m,h,h'=>by simp at h h';subst h;subst h';simp[putsN]
 |a::l,b::r,i+1,x,y,m,h,h'=>by
  simp only[List.take_succ_cons,putsN]
  exact Q7j (l:=l) (r:=r) (by simpa using h) (by simpa using h')
theorem Q9c:∀{l r:List Tr}{i:Nat}{a b:Tr}{m:Nm},(Q2h l r m).1=true->l[i]?=some a->r[i]?=some b->
  (sameT a b (Q2h (l.take i) (r.take i) m).2).1=true/\(Q2h (l.take (i+1)) (r.take (i+1)) m).2=(sameT a b (Q2h (l.take i) (r.take i) m).2).2
 |[],_,i,a,b,m,_,h,_=>by simp at h
 |x::l,[],i,a,b,m,_,_,h=>by simp at h
 |x::l,y::r,0,a,b,m,hs,h,h'=>by
  simp at h h'
  subst h;subst h'
  unfold Q2h at hs
  by_cases e:(sameT x y m).1=true
  ·simp[Q2h,e]
  ·simp[e]at hs
 |x::l,y::r,i+1,a,b,m,hs,h,h'=>by
  unfold Q2h at hs
  by_cases e:(sameT x y m).1=true
  ·simp only[e,if_true]at hs
   have:=Q9c (l:=l) (r:=r) hs (by simpa using h) (by simpa using h')
   simp only[List.take_succ_cons,Q2h,e,if_true]
   exact this
  ·simp[e]at hs
theorem Qaj:∀{l r:List Alt}{i:Nat}{a b:Alt},Q1l l r=true->l[i]?=some a->r[i]?=some b->a.tag=b.tag/\a.binds.length=b.binds.length
 |[],_,i,a,b,_,h,_=>by simp at h
 |x::l,[],i,a,b,_,_,h=>by simp at h
 |x::l,y::r,0,a,b,hs,h,h'=>by
  simp at h h'
  subst h;subst h'
  simp only[Q1l,Bool.and_eq_true,beq_iff_eq]at hs
  exact hs.1
 |x::l,y::r,i+1,a,b,hs,h,h'=>by
  simp only[Q1l,Bool.and_eq_true]at hs
  exact Qaj hs.2 (by simpa using h) (by simpa using h')
theorem Q8k:∀{l r:List Alt},Q1l l r=true->l.length=r.length->(l.flatMap (·.binds)).length=(r.flatMap (·.binds)).length
 |[],[],_,_=>rfl
 |[],y::r,_,h=>by simp at h
 |x::l,[],_,h=>by simp at h
 |x::l,y::r,hs,h=>by
  simp only[Q1l,Bool.and_eq_true,beq_iff_eq]at hs
  have:=Q8k hs.2 (by simpa using h)
  simp only[List.flatMap_cons,List.length_append,this,hs.1.2]
theorem Qf8{o:Int}{b b':List Int}{a a':List Alt}(hb:b.length=b'.length)(ha:a.length=a'.length)(hl:Q1l a a'=true):(Q07 o b a).length=(Q07 o b' a').length:=by
 unfold Q07
 rw[List.length_append,List.length_append,Q8k hl ha]
 split <;> simp[hb]
theorem Qj4{o n:Int}{b:List Int}{ks:List Tr}{a:List Alt}{t:Tr}{m:Nm}(h:(sameT (.mk o n b ks a) t m).1=true) :
  (o = t.op /\ ks.length = t.kids.length /\ b.length = t.binds.length /\ a.length = t.alts.length) /\
  ((o = 0 /\ Q9b m n t.n = true /\ (sameT (.mk o n b ks a) t m).2 = m) ∨
  (o ≠ 0 /\ n = t.n /\ (o = 9 -> b = t.binds) /\ Q1l a t.alts = true /\ (Q2h ks t.kids (putsN m (Q07 o b a) (Q07 t.op t.binds t.alts))).1 = true /\
   (sameT (.mk o n b ks a) t m).2=(Q2h ks t.kids (putsN m (Q07 o b a) (Q07 t.op t.binds t.alts))).2)):=by
 unfold sameT at h ⊢
 by_cases h1:Qgx o ks.length b.length a.length t=true
 ·rw[if_pos h1]at h;cases h
 rw[if_neg h1]at h ⊢
 have h1':o=t.op/\ks.length=t.kids.length/\b.length=t.binds.length/\a.length=t.alts.length:=by
  simpa[Qgx,and_assoc]using h1
 refine⟨h1',?_⟩
 by_cases h2:o=0
 ·rw[if_pos h2]at h ⊢
  exact .inl ⟨h2,h,rfl⟩
 rw[if_neg h2]at h ⊢
 by_cases h3:((!(n==t.n))||(o==9&&!(b==t.binds)))=true
 ·rw[if_pos h3]at h;cases h
 rw[if_neg h3]at h ⊢
 have h3':n=t.n/\(o=9->b=t.binds):=by simpa using h3
 by_cases h4:Q1l a t.alts=false
 ·rw[if_pos h4]at h;cases h
 rw[if_neg h4]at h ⊢
 exact .inr ⟨h2,h3'.1,h3'.2,by simpa using h4,h,rfl⟩
end Go.CoreX
namespace Go.Proofs.YtpaonemmbhbgoaaGreatDoor
open Go Go.Abs Go.CoreX
variable {Γ:List (Nat×List AC)}
theorem Qm4{xs ys:List Int}{j:Nat}{x y:Int}(h1:xs[j]?=some x)(h2:ys[j]?=some y)(h:x≠y):(xs==ys)=false:=by
 apply beq_eq_false_iff_ne.2
 rintro rfl
 rw[h1]at h2
 exact h (by simpa using h2)
theorem Qm5{xs ys:List Int}(hl:xs.length=ys.length)(h:∀(j:Nat)(x y:Int),xs[j]?=some x->ys[j]?=some y->x=y):(xs==ys)=true:=by
 rw[beq_iff_eq]
 refine List.ext_getElem hl fun i h1 h2=>h i _ _ (List.getElem?_eq_getElem h1) (List.getElem?_eq_getElem h2)
theorem SameInts_ok(hΓ:∀g cs,(g,cs)∈Γ->idsL isO cs)(xs ys:List Int)(hx:xs.length<=1048576):
  APure Tryz.prog Γ 92 [.one (.sl 1 (xs.map cI)),.one (.sl 1 (ys.map cI))] (.one (.lit (.bool (xs==ys)))):=by
 intro ou
 refine AFn.walk 26 tabOk Tryz.func92 rfl (by kernel_rfl) rfl rfl fun hou=>?_
 refine zA ?_
 refine ACode.cond rfl (fun hb=>?_) (fun hb=>?_)
 ·refine zA ?_
  refine APure.fin rfl (WkF.ofEq ?_) (by simp) hou rfl
  have:(xs==ys)=false:=by
   apply beq_eq_false_iff_ne.2
   rintro rfl
   simp at hb
  rw[this]
 have hl:xs.length=ys.length:=by simp at hb;omega
 clear hb
 refine zA ?_
 refine ACode.loopR hΓ (α:=Nat) (fun j=>[(13,.one (int j)),(12,.one (int (xs.map cI).length)),(1,.one (.sl 1 (ys.map cI))),(0,.one (.sl 1 (xs.map cI)))])
  (fun j => ⟨0, [], ou⟩) (fun m j => j <= xs.length /\ (∀ (i : Nat) (x y : Int), i < j -> xs[i]? = some x -> ys[i]? = some y -> x = y) /\ m = xs.length - j) (a0 := 0) (ρ := id) ⟨by omega, fun i x y h => by omega, rfl⟩ (LessR.of rfl zFS (by simp) zLO rfl rfl hou) fun m j hj => ?_
 obtain⟨hjl,hno,rfl⟩:=hj
 refine zA ?_
 refine ACode.cond rfl (fun hb2=>?_) (fun hb2=>?_)
 ·have hlt:j < xs.length:=by simpa using hb2
  obtain⟨x,hx1⟩:=Q00 hlt
  obtain⟨y,hy1⟩:=Q00 (l:=ys) (i:=j) (by omega)
  refine zA ?_
  refine ACode.drawX tabOk 8 [(2,.one (.box (cI x))),(6,.one (.box (cI y)))] follows (by kernel_rfl) rfl rfl rfl rfl ?_ ?_
  ·refine .step rfl (zHP (zIA rfl rfl rfl (by omega) (Q04 hx1))) ?_
   exact .step rfl (zHP (zIA rfl rfl rfl (by omega) (Q04 hy1))) .nil
  refine zA ?_
  refine ACode.cond rfl (fun hb3=>?_) (fun hb3=>?_)
  ·have hne:x≠y:=by simpa using hb3
   refine zA ?_
   refine APure.fin rfl (WkF.ofEq ?_) (by simp) hou rfl
   rw[Qm4 hx1 hy1 hne]
  ·have he:x=y:=by simpa using hb3
   refine zM ?_
   refine cInv ⟨xs.length - (j+1),j+1,id,by omega,⟨by omega,fun i x' y' hi h1 h2=>?_,rfl⟩,LessR.of rfl zFS (by simp) zLO rfl rfl hou⟩
   by_cases e:i=j
   ·subst e
    rw[hx1]at h1;rw[hy1]at h2
    cases h1;cases h2;exact he
   ·exact hno i x' y' (by omega) h1 h2
 ·have hlt:j=xs.length:=by simp at hb2;omega
  subst hlt
  refine zA ?_
  refine APure.fin rfl (WkF.ofEq ?_) (by simp) hou rfl
  rw[Qm5 hl fun i x y h1 h2=>hno i x y (List.getElem?_eq_some_iff.1 h1).1 h1 h2]
theorem Qpe(hΓ:∀g cs,(g,cs)∈Γ->idsL isO cs)(xs ys:List Int)(hx:xs.length<=1048576):
  APure Tryz.prog Γ 36 [.one (.sl 1 (xs.map cI)),.one (.sl 1 (ys.map cI))] (.one (.lit (.bool (xs==ys)))):=by
 intro ou
 refine AFn.walk 26 tabOk Tryz.func36 rfl (by kernel_rfl) rfl rfl fun hou=>?_
 refine zA ?_
 refine ACode.cond rfl (fun hb=>?_) (fun hb=>?_)
 ·refine zA ?_
  refine APure.fin rfl (WkF.ofEq ?_) (by simp) hou rfl
  have:(xs==ys)=false:=by
   apply beq_eq_false_iff_ne.2
   rintro rfl
   simp at hb
  rw[this]
 have hl:xs.length=ys.length:=by simp at hb;omega
 clear hb
 refine zA ?_
 refine ACode.loopR hΓ (α:=Nat) (fun j=>[(13,.one (int j)),(12,.one (int (xs.map cI).length)),(1,.one (.sl 1 (ys.map cI))),(0,.one (.sl 1 (xs.map cI)))])
  (fun j => ⟨0, [], ou⟩) (fun m j => j <= xs.length /\ (∀ (i : Nat) (x y : Int), i < j -> xs[i]? = some x -> ys[i]? = some y -> x = y) /\ m = xs.length - j) (a0 := 0) (ρ := id) ⟨by omega, fun i x y h => by omega, rfl⟩ (LessR.of rfl zFS (by simp) zLO rfl rfl hou) fun m j hj => ?_
 obtain⟨hjl,hno,rfl⟩:=hj
 refine zA ?_
 refine ACode.cond rfl (fun hb2=>?_) (fun hb2=>?_)
 ·have hlt:j < xs.length:=by simpa using hb2
  obtain⟨x,hx1⟩:=Q00 hlt
  obtain⟨y,hy1⟩:=Q00 (l:=ys) (i:=j) (by omega)
  refine zA ?_
  refine ACode.drawX tabOk 8 [(2,.one (.box (cI x))),(6,.one (.box (cI y)))] follows (by kernel_rfl) rfl rfl rfl rfl ?_ ?_
  ·refine .step rfl (zHP (zIA rfl rfl rfl (by omega) (Q04 hx1))) ?_
   exact .step rfl (zHP (zIA rfl rfl rfl (by omega) (Q04 hy1))) .nil
  refine zA ?_
  refine ACode.cond rfl (fun hb3=>?_) (fun hb3=>?_)
  ·have hne:x≠y:=by simpa using hb3
   refine zA ?_
   refine APure.fin rfl (WkF.ofEq ?_) (by simp) hou rfl
   rw[Qm4 hx1 hy1 hne]
  ·have he:x=y:=by simpa using hb3
   refine zM ?_
   refine cInv ⟨xs.length - (j+1),j+1,id,by omega,⟨by omega,fun i x' y' hi h1 h2=>?_,rfl⟩,LessR.of rfl zFS (by simp) zLO rfl rfl hou⟩
   by_cases e:i=j
   ·subst e
    rw[hx1]at h1;rw[hy1]at h2
    cases h1;cases h2;exact he
   ·exact hno i x' y' (by omega) h1 h2
 ·have hlt:j=xs.length:=by simp at hb2;omega
  subst hlt
  refine zA ?_
  refine APure.fin rfl (WkF.ofEq ?_) (by simp) hou rfl
  rw[Qm5 hl fun i x y h1 h2=>hno i x y (List.getElem?_eq_some_iff.1 h1).1 h1 h2]
def ouN (ck:Nat)(l:List (Nat×Int×Int)):Outer:=ouOf [.map ck (encI eN l)]
theorem Qlh(ck:Nat)(l:List (Nat×Int×Int)):OuOk (ouN ck l):=by
 intro k o h
 match k,h with
 |0,h=>cases h;exact Q2x _ _ _
 |k+1,h=>cases h
theorem Qlg(ck ck':Nat)(l l':List (Nat×Int×Int)):(fun j=>bif Nat.beq j 0 then some (AObj.map ck' (encI eN l'))else ouN ck l j)=ouN ck' l':=by
 funext j
 match j with
 |0=>rfl
 |k+1=>rfl
theorem okT_tr{t:Tr}(h:okT t):t.binds.length<=1048576/\t.kids.length<=1048576/\t.alts.length<=1048576/\(∀x∈t.alts,x.binds.length<=1048576)/\Q5k t<=4194304/\∀k∈t.kids,okT k:=by
 cases t with
 |mk o n b k a=>
  obtain⟨h1,h2,h3,h4,h5⟩:=h
  exact⟨h1,h2,h3,h4.1,h4.2,Q4g.1 h5⟩
def SameOk (Γ:List (Nat×List AC))(a b:Tr):Prop:=∀(m:Nm)(ck:Nat)(l:List (Nat×Int×Int)),IMOk m ck l->(sameT a b m).1=true->
 AFn Tryz.prog Γ 88 [.one (.box (cTr a)),.one (.box (cTr b)),.one (.mp (.o 0))] (ouN ck l) (fun r ou'=>r=.one (.lit (.bool true))/\∃ck' l',ou'=ouN ck' l'/\IMOk (sameT a b m).2 ck' l')
set_option maxHeartbeats 2000000 in
theorem Qkq(hΓ:∀g cs,(g,cs)∈Γ->idsL isO cs):∀a:Tr,okT a->∀b,okT b->SameOk Γ a b
 |.mk o n bs ks al,ha,t,ht=>by
  have ha':=okT_tr ha
  obtain⟨hbs,hks,hal,hab,hbl,hkk⟩:=ha'
  simp only[Tr.binds_mk,Tr.kids_mk,Tr.alts_mk]at hbs hks hal hab hkk
  have ih:∀x∈ks,∀y,okT y->SameOk Γ x y:=fun x hx y hy=>Qkq hΓ x (hkk x hx) y hy
  obtain⟨htb,htk,hta,htab,htl,htkk⟩:=okT_tr ht
  intro m ck l hm hs
  obtain⟨⟨e1,e2,e3,e4⟩,hcase⟩:=Qj4 hs
  refine AFn.walk 222 tabOk Tryz.func88 rfl (by kernel_rfl) rfl rfl fun hou=>?_
  refine zA ?_
  refine ACode.drawX tabOk 47 [(8,.one (.lit (.bool false))),(20,.one (.lit (.bool false))),(33,.one (.lit (.bool false))),(46,.one (.lit (.bool false)))] follows (by kernel_rfl) rfl rfl rfl rfl ?_ ?_
  ·refine .step rfl (HStep.litB tabOk rfl (by simp[e1])) ?_
   refine .step rfl (HStep.litB tabOk rfl (by simp[e2])) ?_
   refine .step rfl (HStep.litB tabOk rfl (by simp[e3])) ?_
   exact .step rfl (HStep.litB tabOk rfl (by simp[e4])) .nil
  iterate 7 (first|((with_reducible refine oj ?_);refine zau ?_)|(with_reducible refine zst ?_)|((with_reducible refine Q0j ?_ ?_);rfl)|(with_reducible refine ok ?_;first|refine ACode.condT rfl ?_|refine ACode.condF rfl ?_))
  refine ACode.cutR hΓ (α:=Unit) (fun _=>[(2,.one (.mp (.o 0))),(1,.one (.box (cTr t))),(0,.one (.box (cTr (.mk o n bs ks al))))])
   (fun _ => ⟨0, [], ouN ck l⟩) (fun _ => o ≠ 0 /\ Q1l al t.alts = true /\ (Q2h ks t.kids (putsN m (Q07 o bs al) (Q07 t.op t.binds t.alts))).1 = true /\ (sameT (.mk o n bs ks al) t m).2 = (Q2h ks t.kids (putsN m (Q07 o bs al) (Q07 t.op t.binds t.alts))).2) ?_ fun _ hc => ?_
  ·refine zA ?_
   rcases hcase with ⟨h0,hv,hm2⟩|⟨h0,hn,h9,hal2,hts,hm2⟩
   ·refine ACode.cond rfl (fun hb=>?_) (fun hb=>absurd h0 (by simpa using hb))
    have hz:=zeroN
    refine zA ?_
    refine zS (AStep.lookI eN (cm:=true) (v:=.one (int ((m n).getD 0))) rfl Tryz.underlying122 Tryz.underlying3 rfl rfl rfl (by kernel_rfl) zeroN hm (by simp only[Tr.n_mk];cases m n <;> rfl)) ?_
    refine zA ?_
    cases hmn:m n with
    |some v=>
     have hvt:v=t.n:=by simpa[Q9b,hmn]using hv
     refine ACode.wk 8 rfl (y:=.one (.lit (.bool true))) (.ofEq (by simp[hmn])) ?_
     refine ACode.wk 7 rfl (y:=.one (int v)) (.ofEq (by simp[hmn])) ?_
     refine ACode.drawX tabOk 24 [(7,.one (.lit (.bool true)))] follows (by kernel_rfl) rfl rfl rfl rfl ?_ ?_
     ·exact .step rfl (HStep.litB tabOk rfl (by simp[hvt])) .nil
     refine zA ?_
     exact AFn.fin' rfl (WkF.refl _) (by simp) hou ⟨rfl,ck,l,rfl,by rw[hm2];exact hm⟩
    |none=>
     have hvt:n=t.n:=by simpa[Q9b,hmn]using hv
     refine ACode.wk 8 rfl (y:=.one (.lit (.bool false))) (.ofEq (by simp[hmn])) ?_
     refine ACode.drawX tabOk 24 [(21,.one (.lit (.bool true)))] follows (by kernel_rfl) rfl rfl rfl rfl ?_ ?_
     ·exact .step rfl (HStep.litB tabOk rfl (by simp[hvt])) .nil
     refine zA ?_
     exact AFn.fin' rfl (WkF.refl _) (by simp) hou ⟨rfl,ck,l,rfl,by rw[hm2];exact hm⟩
   ·refine ACode.cond rfl (fun hb=>absurd (by simpa using hb) h0) (fun hb=>?_)
    refine zA ?_
    by_cases h9':o=9
    ·have heq:=Qpe hΓ bs t.binds hbs
     rw[h9 h9']at heq
     have e9:(t.binds==t.binds)=true:=by simp
     rw[e9]at heq
     refine ACode.drawX tabOk 28 [(8,.one (.lit (.bool false))),(14,.one (.lit (.bool true))),(24,.one (.lit (.bool true)))] follows (by kernel_rfl) rfl rfl rfl rfl ?_ ?_
     ·refine .step rfl (HStep.litB tabOk rfl (by simp[hn])) ?_
      refine .step rfl (HStep.litB tabOk rfl (by simp[h9'])) ?_
      exact .step rfl (HStep.guarded rfl rfl rfl (AStep.callP hΓ rfl rfl rfl (by rw[h9 h9'];rfl) (by simp) hou heq)) .nil
     refine zA ?_
     exact cInv ⟨(),id,⟨h0,hal2,hts,hm2⟩,LessR.of rfl zFS (by simp) .nil rfl rfl hou⟩
    ·refine ACode.drawX tabOk 28 [(8,.one (.lit (.bool false))),(14,.one (.lit (.bool false)))] follows (by kernel_rfl) rfl rfl rfl rfl ?_ ?_
     ·refine .step rfl (HStep.litB tabOk rfl (by simp[hn])) ?_
      exact .step rfl (HStep.litB tabOk rfl (by simp[h9'])) .nil
     refine zA ?_
     exact cInv ⟨(),id,⟨h0,hal2,hts,hm2⟩,LessR.of rfl zFS (by simp) .nil rfl rfl hou⟩
  obtain⟨h0,hal2,hts,hm2⟩:=hc
  clear hcase hs
  refine zA ?_
  refine ACode.loopR hΓ (α:=Nat) (fun i=>[(135,.one (int i)),(134,.one (int (al.map cAlt).length)),(2,.one (.mp (.o 0))),(1,.one (.box (cTr t))),(0,.one (.box (cTr (.mk o n bs ks al))))])
   (fun i => ⟨0, [], ouN ck l⟩) (fun m i => i <= al.length /\ m = al.length - i) (a0 := 0) (ρ := id) ⟨by omega, rfl⟩ (LessR.of rfl zFS (by simp) .nil rfl rfl hou) fun m' i hi => ?_
  obtain⟨hil,rfl⟩:=hi
  refine zA ?_
  refine ACode.cond rfl (fun hb3=>?_) (fun hb3=>?_)
  ·have hlt:i < al.length:=by simpa using hb3
   obtain⟨x,hx⟩:=Q00 hlt
   obtain⟨y,hy⟩:=Q00 (l:=t.alts) (i:=i) (by omega)
   obtain⟨q1,q2⟩:=Qaj hal2 hx hy
   refine zA ?_
   refine ACode.drawX tabOk 37 [(5,.one (.box (cAlt x))),(13,.one (.box (cAlt y))),(16,.one (.lit (.bool false))),(23,.one (.box (cAlt x))),(32,.one (.box (cAlt y))),(36,.one (.lit (.bool false)))] follows (by kernel_rfl) rfl rfl rfl rfl ?_ ?_
   ·refine .step rfl (zHP (zIA rfl rfl rfl (by omega) (Q04 hx))) ?_
    refine .step rfl (zHP (zIA rfl rfl rfl (by omega) (Q04 hy))) ?_
    refine .step rfl (HStep.litB tabOk rfl (by simp[q1])) ?_
    refine .step rfl (HStep.guarded rfl rfl rfl (zIA rfl rfl rfl (by omega) (Q04 hx))) ?_
    refine .step rfl (HStep.guarded rfl rfl rfl (zIA rfl rfl rfl (by omega) (Q04 hy))) ?_
    exact .step rfl (HStep.litB tabOk rfl (by simp[q2])) .nil
   refine zM ?_
   exact cInv ⟨al.length - (i+1),i+1,id,by omega,⟨by omega,rfl⟩,LessR.of rfl zFS (by simp) .nil rfl rfl hou⟩
  clear hb3
  have hlen:=Qf8 (o:=o) e3 e4 hal2
  have hB1:=Q5v hΓ (.mk o n bs ks al) hbl hal
  have hB2:=Q5v hΓ t htl hta
  have hbn:(Q07 o bs al).length<=4194304:=by
   unfold Q5k at hbl
   simp only[Tr.binds_mk,Tr.alts_mk]at hbl
   unfold Q07
   rw[List.length_append]
   split
   ·omega
   ·simp only[List.length_nil];omega
  simp only[Tr.op_mk,Tr.binds_mk,Tr.alts_mk]at hB1
  rw[←e1]at hB2 hts hm2
  generalize Q07 o bs al=L1 at hlen hB1 hts hm2 hbn
  generalize Q07 o t.binds t.alts=L2 at hlen hB2 hts hm2
  refine zA ?_
  refine zca hΓ hB1 hou ?_
  refine zA ?_
  refine zca hΓ hB2 hou ?_
  refine zA ?_
  refine ACode.loopR hΓ (α:=Nat×Nat×List (Nat×Int×Int)) (fun c=>[(183,.one (int c.1)),(182,.one (int (L1.map cI).length)),(11,.one (.sl 1 (L2.map cI))),(10,.one (.sl 1 (L1.map cI))),(2,.one (.mp (.o 0))),(1,.one (.box (cTr t))),(0,.one (.box (cTr (.mk o n bs ks al))))])
   (fun c=>⟨0,[],ouN c.2.1 c.2.2⟩) (fun m' c=>c.1<=L1.length/\IMOk (putsN m (L1.take c.1) (L2.take c.1)) c.2.1 c.2.2/\m'=L1.length - c.1) (a0:=(0,ck,l)) (ρ:=id) ⟨by omega,by simpa[putsN]using hm,rfl⟩ (LessR.of rfl zFS (by simp) .nil rfl rfl hou) fun m' c hi=>?_
  clear hm hou
  obtain⟨i,ck,l⟩:=c
  obtain⟨hil,hm,rfl⟩:=hi
  simp only at hil hm
  have hou:OuOk (ouN ck l):=Qlh _ _
  refine zA ?_
  refine ACode.cond rfl (fun hb3=>?_) (fun hb3=>?_)
  ·have hlt:i < L1.length:=by simpa using hb3
   obtain⟨x,hx⟩:=Q00 hlt
   obtain⟨y,hy⟩:=Q00 (l:=L2) (i:=i) (by omega)
   refine zA ?_
   refine ACode.drawX tabOk 9 [(3,.one (.box (cI x))),(7,.one (.box (cI y)))] follows (by kernel_rfl) rfl rfl rfl rfl ?_ ?_
   ·refine .step rfl (zHP (zIA rfl rfl rfl (by omega) (Q04 hx))) ?_
    exact .step rfl (zHP (zIA rfl rfl rfl (by omega) (Q04 hy))) .nil
   refine AOps.putI eN (v:=y) rfl rfl rfl Tryz.underlying122 Tryz.underlying3 rfl rfl rfl rfl hm fun ck' l' hm'=>?_
   refine zM ?_
   refine cInv ⟨L1.length - (i+1),(i+1,ck',l'),id,by omega,⟨by omega,?_,rfl⟩,LessR.of rfl zFS (by simp) .nil rfl (Qlg ck ck' l l').symm (by rw[show (St.set ⟨0,[],ouN ck l⟩ (.o 0) (.map ck' (encI eN l'))).ou=ouN ck' l' from Qlg ck ck' l l'];exact Qlh _ _)⟩
   rw[Q7j hx hy];exact hm'
  have hlt:i=L1.length:=by simp at hb3;omega
  subst hlt
  rw[List.take_length,hlen,List.take_length]at hm
  generalize putsN m L1 L2=m1 at hm hts hm2
  clear hb3
  refine zA ?_
  refine ACode.loopR hΓ (α:=Nat×Nat×List (Nat×Int×Int)) (fun c=>[(201,.one (int c.1)),(200,.one (int (Q10 ks).length)),(2,.one (.mp (.o 0))),(1,.one (.box (cTr t))),(0,.one (.box (cTr (.mk o n bs ks al))))])
   (fun c=>⟨0,[],ouN c.2.1 c.2.2⟩) (fun m' c=>c.1<=ks.length/\IMOk (Q2h (ks.take c.1) (t.kids.take c.1) m1).2 c.2.1 c.2.2/\m'=ks.length - c.1) (a0:=(0,ck,l)) (ρ:=id) ⟨by omega,by simpa[Q2h]using hm,rfl⟩ (LessR.of rfl zFS (by simp) .nil rfl rfl hou) fun m' c hi=>?_
  clear hm hou
  obtain⟨i,ck,l⟩:=c
  obtain⟨hil,hm,rfl⟩:=hi
  simp only at hil hm
  have hou:OuOk (ouN ck l):=Qlh _ _
  refine zA ?_
  refine ACode.cond rfl (fun hb3=>?_) (fun hb3=>?_)
  ·have hlt:i < ks.length:=by simpa using hb3
   obtain⟨x,hx⟩:=Q00 hlt
   obtain⟨y,hy⟩:=Q00 (l:=t.kids) (i:=i) (by omega)
   obtain⟨q1,q2⟩:=Q9c hts hx hy
   have hcall:=ih x (List.mem_of_getElem? hx) y (htkk y (List.mem_of_getElem? hy)) _ ck l hm q1
   refine zA ?_
   refine ACode.drawX tabOk 15 [(5,.one (.box (cB x))),(12,.one (.box (cB y)))] follows (by kernel_rfl) rfl rfl rfl rfl ?_ ?_
   ·refine .step rfl (zHP (zIA rfl rfl rfl (by omega) (Q1v hx))) ?_
    exact .step rfl (zHP (zIA rfl rfl rfl (by omega) (Q1v hy))) .nil
   refine AOps.call1 hΓ rfl rfl rfl rfl rfl rfl rfl (by simp) hou hcall fun r ou' hq hids hou'=>?_
   obtain⟨rfl,ck',l',rfl,hm'⟩:=hq
   refine zM ?_
   refine cInv ⟨ks.length - (i+1),(i+1,ck',l'),id,by omega,⟨by omega,?_,rfl⟩,LessR.of rfl zFS (by simp) .nil rfl rfl hou'⟩
   rw[q2];exact hm'
  ·have hlt:i=ks.length:=by simp at hb3;omega
   subst hlt
   rw[List.take_length,e2,List.take_length]at hm
   refine zA ?_
   exact AFn.fin' rfl (WkF.refl _) (by simp) hou ⟨rfl,ck,l,rfl,by rw[hm2];exact hm⟩
end Go.Proofs.YtpaonemmbhbgoaaGreatDoor
namespace Go.Proofs
open Go.Shelf
def Tryz.lays189_ren:Go.Shelf.Ren:=⟨fun|189=>96|125=>118|257=>117|128=>161|129=>162|294=>152|295=>153|296=>154|297=>155|298=>156|299=>157|216=>158|300=>159|301=>160|328=>176|329=>177|330=>178|331=>179|332=>180|215=>181|343=>194|n=>n,fun|28=>29|3=>3|46=>161|0=>0|51=>205|53=>207|4=>4|183=>199|182=>198|131=>130|5=>5|9=>9|218=>227|222=>231|228=>244|229=>237|n=>n,fun|n=>n⟩
theorem Tryz.lays189:Go.Proofs.Lays.n189 Tryz.prog Tryz.lays189_ren:={
 mixed:=by kernel_rfl
 f125:=Tryz.func118.trans (congrArg some (by kernel_rfl))
 f128:=Tryz.func161.trans (congrArg some (by kernel_rfl))
 f129:=Tryz.func162.trans (congrArg some (by kernel_rfl))
 f189:=Tryz.func96.trans (congrArg some (by kernel_rfl))
 f215:=Tryz.func181.trans (congrArg some (by kernel_rfl))
 f216:=Tryz.func158.trans (congrArg some (by kernel_rfl))
 f257:=Tryz.func117.trans (congrArg some (by kernel_rfl))
 f294:=Tryz.func152.trans (congrArg some (by kernel_rfl))
 f295:=Tryz.func153.trans (congrArg some (by kernel_rfl))
 f296:=Tryz.func154.trans (congrArg some (by kernel_rfl))
 f297:=Tryz.func155.trans (congrArg some (by kernel_rfl))
 f298:=Tryz.func156.trans (congrArg some (by kernel_rfl))
 f299:=Tryz.func157.trans (congrArg some (by kernel_rfl))
 f300:=Tryz.func159.trans (congrArg some (by kernel_rfl))
 f301:=Tryz.func160.trans (congrArg some (by kernel_rfl))
 f328:=Tryz.func176.trans (congrArg some (by kernel_rfl))
 f329:=Tryz.func177.trans (congrArg some (by kernel_rfl))
 f330:=Tryz.func178.trans (congrArg some (by kernel_rfl))
 f331:=Tryz.func179.trans (congrArg some (by kernel_rfl))
 f332:=Tryz.func180.trans (congrArg some (by kernel_rfl))
 f343:=Tryz.func194.trans (congrArg some (by kernel_rfl))
 t0:=Tryz.underlying0
 a0:=Tryz.isAgg0
 z0:=Tryz.sizeOf0
 v0:=Tryz.zeroValue0
 t3:=Tryz.underlying3
 a3:=Tryz.isAgg3
 z3:=Tryz.sizeOf3
 v3:=Tryz.zeroValue3
 t4:=Tryz.underlying4
 a4:=Tryz.isAgg4
 z4:=Tryz.sizeOf4
 v4:=Tryz.zeroValue4
 t5:=Tryz.underlying5
 a5:=Tryz.isAgg5
 z5:=Tryz.sizeOf5
 v5:=Tryz.zeroValue5
 t9:=Tryz.underlying9
 a9:=Tryz.isAgg9
 z9:=Tryz.sizeOf9
 v9:=Tryz.zeroValue9
 t28:=Tryz.underlying29
 a28:=Tryz.isAgg29
 z28:=Tryz.sizeOf29
 v28:=Tryz.zeroValue29
 t46:=Tryz.underlying161
 a46:=Tryz.isAgg161
 z46:=Tryz.sizeOf161
 v46:=Tryz.zeroValue161
 t51:=Tryz.underlying205
 a51:=Tryz.isAgg205
 z51:=Tryz.sizeOf205
 v51:=Tryz.zeroValue205
 t53:=Tryz.underlying207
 a53:=Tryz.isAgg207
 z53:=Tryz.sizeOf207
 v53:=Tryz.zeroValue207
 t131:=Tryz.underlying130
 a131:=Tryz.isAgg130
 z131:=Tryz.sizeOf130
 v131:=Tryz.zeroValue130
 t182:=Tryz.underlying198
 a182:=Tryz.isAgg198
 z182:=Tryz.sizeOf198
 v182:=Tryz.zeroValue198
 t183:=Tryz.underlying199
 a183:=Tryz.isAgg199
 z183:=Tryz.sizeOf199
 v183:=Tryz.zeroValue199
 t218:=Tryz.underlying227
 a218:=Tryz.isAgg227
 z218:=Tryz.sizeOf227
 v218:=Tryz.zeroValue227
 t222:=Tryz.underlying231
 a222:=Tryz.isAgg231
 z222:=Tryz.sizeOf231
 v222:=Tryz.zeroValue231
 t228:=Tryz.underlying244
 a228:=Tryz.isAgg244
 z228:=Tryz.sizeOf244
 v228:=Tryz.zeroValue244
 t229:=Tryz.underlying237
 a229:=Tryz.isAgg237
 z229:=Tryz.sizeOf237
 v229:=Tryz.zeroValue237 }
open Go.Sort Go.RowKit in
theorem Tryz.slices_Sort_int(blk off cap:Nat)(zs:List Int)(w:World)(hH:Holds (Value.int .i64) w blk off zs.toArray)(hblk:blk < w.heap.size)(hsz:zs.length < 4611686018427387904):
  Calls Tryz.prog 96 #[.slice (some ⟨blk,off,none⟩) zs.length cap] w fun e w'=>
   e=.returned (.tuple #[])/\∃n os,w'=grow (putRow (Value.int .i64) (Sort.ahead w n) blk off (zs.mergeSort fun x y=>decide (x<=y)).toArray) os:=Any.slices_Sort_int Tryz.lays189 blk off cap zs w hH hblk hsz
theorem Tryz.slices_Sort_int_none(p:Option Addr)(cap:Nat)(w:World):
  Calls Tryz.prog 96 #[.slice p 0 cap] w fun e w'=>e=.returned (.tuple #[])/\w'=w:=Any.slices_Sort_int_none Tryz.lays189 p cap w
end Go.Proofs
namespace Go.Proofs.YtpaonemmbhbgoaaGreatDoor
open Go Go.Sort
theorem sortOk:SortOk:=fun blk off cap zs w hH hblk hsz=>Tryz.slices_Sort_int blk off cap zs w hH hblk hsz
theorem sortNil:Qn5:=fun w=>Tryz.slices_Sort_int_none none 0 w
end Go.Proofs.YtpaonemmbhbgoaaGreatDoor
namespace Go.CoreX
theorem Qo8{e:List Ex}(h:∀x∈e,x.binds.length<=1048576/\x.kids.length<=1048576/\x.alts.length<=1048576/\(∀a∈x.alts,a.binds.length<=1048576)/\x.binds.length+(x.alts.flatMap (·.binds)).length<=4194304)(hk:Q0t e):∀t∈growL e,okT t:=by
 revert h hk
 refine Q6n (P:=fun e=>(∀x∈e,x.binds.length<=1048576/\x.kids.length<=1048576/\x.alts.length<=1048576/\(∀a∈x.alts,a.binds.length<=1048576)/\x.binds.length+(x.alts.flatMap (·.binds)).length<=4194304)->Q0t e->∀t∈growL e,okT t) (fun _ _ t ht=>by simp[growL]at ht) (fun e x ih h hk t ht=>?_) e
 obtain⟨h1,h2⟩:=Q3m.1 hk
 have ih:=ih (fun y hy=>h y (by simp[hy])) h1
 rw[Q2e]at ht
 rcases List.mem_append.1 ht with ht|ht
 ·exact ih t ht
 ·simp at ht
  subst ht
  obtain⟨a1,a2,a3,a4,a5⟩:=h x (by simp)
  refine⟨a1,by simpa using a2,a3,⟨a4,a5⟩,Q4g.2 fun s hs=>?_⟩
  obtain⟨k,hk2,rfl⟩:=List.mem_map.1 hs
  have hkb:=h2 k hk2
  have hl:k.toNat < (growL e).length:=by rw[Q0m];omega
  rw[List.getD_eq_getElem?_getD,List.getElem?_eq_getElem hl]
  exact ih _ (List.getElem_mem hl)
theorem Qoo{e:List Ex}(h:e≠[]):grow e∈growL e:=by
 have hl:e.length - 1 < (growL e).length:=by rw[Q0m];have:=List.length_pos_iff.2 h;omega
 unfold grow
 rw[List.getD_eq_getElem?_getD,List.getElem?_eq_getElem hl]
 exact List.getElem_mem hl
theorem Qa8{α:Type}{f:α->Int}:∀{l:List α}{j:Nat}{x:α},(∀y∈l.take j,f y=0)->l[j]?=some x->f x≠0->Q1k f l=f x
 |[],j,x,_,h,_=>by simp at h
 |a::l,0,x,_,h,hx=>by simp at h;subst h;simp[Q1k,hx]
 |a::l,j+1,x,h0,h,hx=>by
  have h1:=h0 a (by simp)
  simp only[Q1k,h1]
  exact Qa8 (l:=l) (j:=j) (fun y hy=>h0 y (by simp[hy])) (by simpa using h) hx
theorem Qjq(t:Tr):(Q3n t).length<=(listT [] t).length:=by
 have h1:(Q3n t).Nodup:=(Q52 (occT [] t)).imp fun {a b} h=>by omega
 have h2:=Qcq h1 (m:=occB (fun _=>0) t) fun x hx=>by rw[Qa6]at hx;exact (Q6m x _).1 hx
 have h3:=Qcp t (fun _=>0) []
 simp at h3
 omega
theorem Q8u{e:List Ex}(h:IsTree e):(listT [] (grow e)).length=e.length:=by
 have hp:=Q9w h (Q16 (grow e)) (Q12 _).symm
 rw[←Q3t e,←Q3t];exact hp.length_eq.symm
end Go.CoreX
namespace Go.Proofs.YtpaonemmbhbgoaaGreatDoor
open Go Go.Abs Go.CoreX
structure okB (e:List Ex):Prop where
 eo:okE e
 b:∀x∈e,x.binds.length+(x.alts.flatMap (·.binds)).length<=4194304
theorem okB.ex{e:List Ex}(h:okB e):∀x∈e,(Q0r x).length<=4194304/\x.binds.length+(x.alts.flatMap (·.binds)).length<=4194304:=fun x hx=>by
 have h1:=h.b x hx
 refine⟨?_,h1⟩
 unfold Q0r Q07
 rw[List.length_append]
 split
 ·omega
 ·simp only[List.length_nil];omega
theorem okB.t{e:List Ex}(h:okB e)(hk:Q0t e)(hne:e≠[]):okT (grow e):=Qo8 (fun x hx=>⟨(h.eo.x x hx).b,(h.eo.x x hx).k,(h.eo.x x hx).a,(h.eo.x x hx).ab,h.b x hx⟩) hk _ (Qoo hne)
theorem hΓcF:∀g cs,(g,cs)∈Γc->idsL (fun _=>False) cs:=fun g cs h=>by
 simp[Γc]at h
 first
  |(obtain⟨rfl,rfl⟩:=h;simp[arC,Q5l];done)
  |(rcases h with ⟨rfl,rfl⟩|⟨rfl,rfl⟩ <;> simp[arC,orC,Q5l])
set_option maxHeartbeats 1000000 in
theorem Body_ok(e:List Ex)(he:okB e)(params:List Int)(hp:params.length<=1048576)(flat:Bool):
  APure Tryz.prog Γc 48 [.one (.sl 5 (e.map cEx)),.one (.sl 1 (params.map cI)),.one (.lit (.bool flat))] (.one (int (body e params flat))):=by
 have hel:=he.eo.l
 intro ou
 refine AFn.walk 62 tabOk Tryz.func48 rfl (by kernel_rfl) rfl rfl fun hou=>?_
 refine zA ?_
 refine AOps.freeze1 (.l 0) 3 rfl rfl ?_
 refine zca hΓc (Qds hΓc e he.eo) hou ?_
 refine zA ?_
 refine ACode.cond rfl (fun hb=>?_) (fun hb=>?_)
 ·have hb':Q1m e≠0:=by simpa using hb
  refine zA ?_
  refine APure.fin rfl (WkF.ofEq ?_) (by simp) hou rfl
  unfold body
  rw[if_pos hb']
 have h1:Q1m e=0:=by simpa using hb
 clear hb
 obtain⟨t1,t2,t3⟩:=(Q29 e).1 h1
 have hn:body e params flat=if Q1k (Q0l flat e) e≠0 then Q1k (Q0l flat e) e else if Q5c (params++Q0a e)=true then 7 else if (Q3n (grow e)).all (fun n=>params.contains n)=true then 0 else 6:=by
  unfold body;rw[if_neg (by simpa using h1)]
 refine zA ?_
 refine ACode.loopR hΓc (α:=Nat) (fun j=>[(20,.one (int j)),(19,.one (int (e.map cEx).length)),(18,.one (.sl 5 (e.map cEx))),(3,.one (.box [.sl 5 (e.map cEx)])),(2,.one (.lit (.bool flat))),(1,.one (.sl 1 (params.map cI)))])
  (fun j => ⟨0, [], ou⟩) (fun m j => j <= e.length /\ (∀ x ∈ e.take j, Q0l flat e x = 0) /\ m = e.length - j) (a0 := 0) (ρ := id) ⟨by omega, by simp, rfl⟩ (LessR.of rfl zFS (by simp) zLO rfl rfl hou) fun m j hj => ?_
 obtain⟨hjl,hno,rfl⟩:=hj
 refine zA ?_
 refine ACode.cond rfl (fun hb2=>?_) (fun hb2=>?_)
 ·have hlt:j < e.length:=by simpa using hb2
  obtain⟨x,hx⟩:=Q00 hlt
  have hxm:=List.mem_of_getElem? hx
  have hxo:=he.eo.x x hxm
  have bad:Q0l flat e x≠0->body e params flat=Q0l flat e x:=fun h=>by
   rw[hn,Qa8 hno hx h,if_pos h]
  have hkk:∀k∈x.kids,0<=k/\k.toNat < e.length:=fun k hk=>by have:=Qcu t2.k hxm k hk;omega
  have hcall:=Qef e x hxo hkk
  refine zA ?_
  refine zS (zIA rfl rfl rfl (by omega) (Q04 hx)) ?_
  cases flat with
  |false=>
   have hE:Q0l false e x=if Q4n x.op=true then 3 else Q1h e x:=by simp[Q0l]
   repeat' first|refine zN ?_|(with_reducible refine oj ?_;refine AOps.splitS rfl rfl rfl rfl (fun hb=>?_) (fun hb=>?_))|(with_reducible refine ok ?_;first|refine ACode.condS rfl (fun hb=>?_) (fun hb=>?_)|refine ACode.cond rfl (fun hb=>?_) (fun hb=>?_))
   refine zca hΓc (Qgd x.op) hou ?_
   repeat' first|refine zN ?_|(with_reducible refine oj ?_;refine AOps.splitS rfl rfl rfl rfl (fun hb=>?_) (fun hb=>?_))|(with_reducible refine ok ?_;first|refine ACode.condS rfl (fun hb=>?_) (fun hb=>?_)|refine ACode.cond rfl (fun hb=>?_) (fun hb=>?_))
   all_goals try
    (
    refine APure.fin rfl (WkF.ofEq ?_) (by simp) hou rfl
    rw[bad (by rw[hE,if_pos hb];decide),hE,if_pos hb]
    done)
   rw[if_neg (by rw[hb];decide)]at hE
   refine zca hΓc hcall hou ?_
   refine zA ?_
   refine ACode.cond rfl (fun hb3=>?_) (fun hb3=>?_)
   ·have h3:Q1h e x≠0:=by simpa using hb3
    refine zA ?_
    refine APure.fin rfl (WkF.ofEq ?_) (by simp) hou rfl
    rw[bad (by rw[hE];exact h3),hE]
   ·have h3:Q1h e x=0:=by simpa using hb3
    refine zM ?_
    exact cInv ⟨e.length - (j+1),j+1,id,by omega,⟨by omega,Q1o hno hx (by rw[hE];exact h3),rfl⟩,LessR.of rfl zFS (by simp) zLO rfl rfl hou⟩
  |true=>
   have hE:Q0l true e x=if Q5r x.op=true then 3 else Q1h e x:=by simp[Q0l]
   repeat' first|refine zN ?_|(with_reducible refine oj ?_;refine AOps.splitS rfl rfl rfl rfl (fun hb=>?_) (fun hb=>?_))|(with_reducible refine ok ?_;first|refine ACode.condS rfl (fun hb=>?_) (fun hb=>?_)|refine ACode.cond rfl (fun hb=>?_) (fun hb=>?_))
   refine zca hΓc (Qgf x.op) hou ?_
   repeat' first|refine zN ?_|(with_reducible refine oj ?_;refine AOps.splitS rfl rfl rfl rfl (fun hb=>?_) (fun hb=>?_))|(with_reducible refine ok ?_;first|refine ACode.condS rfl (fun hb=>?_) (fun hb=>?_)|refine ACode.cond rfl (fun hb=>?_) (fun hb=>?_))
   all_goals try
    (
    refine APure.fin rfl (WkF.ofEq ?_) (by simp) hou rfl
    rw[bad (by rw[hE,if_pos hb];decide),hE,if_pos hb]
    done)
   rw[if_neg (by rw[hb];decide)]at hE
   refine zca hΓc hcall hou ?_
   refine zA ?_
   refine ACode.cond rfl (fun hb3=>?_) (fun hb3=>?_)
   ·have h3:Q1h e x≠0:=by simpa using hb3
    refine zA ?_
    refine APure.fin rfl (WkF.ofEq ?_) (by simp) hou rfl
    rw[bad (by rw[hE];exact h3),hE]
   ·have h3:Q1h e x=0:=by simpa using hb3
    refine zM ?_
    exact cInv ⟨e.length - (j+1),j+1,id,by omega,⟨by omega,Q1o hno hx (by rw[hE];exact h3),rfl⟩,LessR.of rfl zFS (by simp) zLO rfl rfl hou⟩
 have hlt:j=e.length:=by simp at hb2;omega
 subst hlt
 rw[List.take_length]at hno
 rw[if_neg (by rw[Classical.not_not];exact (Q1u _ _).2 hno)]at hn
 clear hno hb2 hjl
 have hgt:=he.t t2.k t2.ne
 refine zA ?_
 refine zca hΓc (Qnl hΓc e he.eo params hp he.ex) hou ?_
 refine zA ?_
 refine ACode.cond rfl (fun hb=>?_) (fun hb=>?_)
 ·refine zA ?_
  refine APure.fin rfl (WkF.ofEq ?_) (by simp) hou rfl
  rw[hn,if_pos hb]
 rw[if_neg (by rw[hb];decide)]at hn
 refine zA ?_
 refine zca hΓc (Q6c hΓc e he.eo t2.k t2.ne) hou ?_
 refine zca hΓc (Qna hΓc hΓcF sortOk sortNil (grow e) hgt (by omega) (by rw[Q8u t2];omega)) hou ?_
 have hfl:=Qjq (grow e)
 rw[Q8u t2]at hfl
 generalize Q3n (grow e)=fs at hn hfl
 refine zA ?_
 refine ACode.loopR hΓc (α:=Nat) (fun j=>[(53,.one (int j)),(52,.one (int (fs.map cI).length)),(51,.one (.sl 1 (fs.map cI))),(1,.one (.sl 1 (params.map cI)))])
  (fun j=>⟨0,[],ou⟩) (fun m j=>j<=fs.length/\(∀x∈fs.take j,params.contains x=true)/\m=fs.length - j) (a0:=0) (ρ:=id) ⟨by omega,by simp,rfl⟩ (LessR.of rfl zFS (by simp) zLO rfl rfl hou) fun m j hj=>?_
 obtain⟨hjl,hno,rfl⟩:=hj
 refine zA ?_
 refine ACode.cond rfl (fun hb2=>?_) (fun hb2=>?_)
 ·have hlt:j < fs.length:=by simpa using hb2
  obtain⟨k,hk⟩:=Q00 hlt
  refine zA ?_
  refine zS (zIA rfl rfl rfl (by omega) (Q04 hk)) ?_
  refine zA ?_
  refine zca hΓc (Qgr hΓc params hp k) hou ?_
  refine zA ?_
  refine ACode.cond rfl (fun hb3=>?_) (fun hb3=>?_)
  ·refine zA ?_
   refine APure.fin rfl (WkF.ofEq ?_) (by simp) hou rfl
   rw[hn,if_neg]
   rw[List.all_eq_true]
   intro h
   have:=h k (List.mem_of_getElem? hk)
   rw[this]at hb3;cases hb3
  ·refine zM ?_
   exact cInv ⟨fs.length - (j+1),j+1,id,by omega,⟨by omega,Q1o hno hk (by simpa using hb3),rfl⟩,LessR.of rfl zFS (by simp) zLO rfl rfl hou⟩
 ·have hlt:j=fs.length:=by simp at hb2;omega
  subst hlt
  rw[List.take_length]at hno
  refine zA ?_
  refine APure.fin rfl (WkF.ofEq ?_) (by simp) hou rfl
  rw[hn,if_pos (List.all_eq_true.2 hno)]
theorem Q2r(e:List Ex)(he:okB e):APure Tryz.prog Γc 13 [.one (.sl 5 (e.map cEx))] (.one (int (check e))):=by
 intro ou
 refine AFn.walk 5 tabOk Tryz.func13 rfl (by kernel_rfl) rfl rfl fun hou=>?_
 refine zA ?_
 refine AOps.callCW (ws:=[.one (.sl 5 (e.map cEx)),.one (.sl 1 (([]:List Int).map cI)),.one (.lit (.bool false))]) hΓc (Body_ok e he [] (by simp) false) rfl rfl rfl rfl rfl rfl ?_ hou (by simp) ?_
 ·exact .cons (.refl _) (.cons (.one (.nilS 1)) (.cons (.refl _) .nil))
 refine zA ?_
 exact APure.fin rfl (WkF.ofEq rfl) (by simp) hou rfl
variable {Γ:List (Nat×List AC)}
theorem Qgo(hΓ:∀g cs,(g,cs)∈Γ->idsL isO cs)(hΓF:∀g cs,(g,cs)∈Γ->idsL (fun _=>False) cs)(a b:Tr)(ha:okT a)(hb:okT b)(hs:Q8o a b=true):
  APure Tryz.prog Γ 57 [.one (.box (cTr a)),.one (.box (cTr b))] (.one (.lit (.bool true))):=by
 intro ou
 refine AFn.walk 9 tabOk Tryz.func57 rfl (by kernel_rfl) rfl rfl fun hou=>?_
 refine zA ?_
 refine zS (AStep.makeMap rfl) ?_
 refine AOps.callR [.l 0] [.one (.box (cTr a)),.one (.box (cTr b)),.one (.mp (.o 0))] [.map 0 (encI eN [])] hΓF rfl rfl rfl rfl rfl rfl ?_ ?_ ?_ ?_ ?_ (Qkq hΓ a ha b hb (fun _=>none) 0 [] IMOk.nil hs) ?_
 ·simp[subF,FV.sub,AC.sub,nameOf]
  exact⟨(Q1q _ _ (by simp)).symm,(Q1q _ _ (by simp)).symm⟩
 ·simp[inO]
 ·simp
 ·exact⟨rfl,trivial⟩
 ·simp[inO]
 intro r ou' hq
 obtain⟨rfl,ck',l',rfl,hm⟩:=hq
 refine⟨[.map ck' (encI eN l')],rfl,rfl,by simp[inO],by simp,?_⟩
 rw[show FV.sub (nameOf [.l 0]) (.one (.lit (.bool true)))=.one (.lit (.bool true))from rfl]
 refine zA ?_
 exact APure.fin rfl (WkF.ofEq rfl) (by simp) hou rfl
theorem Same_ok(e f:List Ex)(he:okB e)(hf:okB f)(hs:same e f=true):APure Tryz.prog Γc 21 [.one (.sl 5 (e.map cEx)),.one (.sl 5 (f.map cEx))] (.one (.lit (.bool true))):=by
 have hs':(check e=0/\check f=0)/\Q8o (grow e) (grow f)=true:=by simpa[same]using hs
 obtain⟨⟨h1,h2⟩,h3⟩:=hs'
 have t1:=Q0f h1
 have t2:=Q0f h2
 have c1:=Q2r e he
 have c2:=Q2r f hf
 rw[h1]at c1
 rw[h2]at c2
 intro ou
 refine AFn.walk 20 tabOk Tryz.func21 rfl (by kernel_rfl) rfl rfl fun hou=>?_
 refine zA ?_
 refine zca hΓc c1 hou ?_
 refine zM ?_
 refine zca hΓc c2 hou ?_
 refine zM ?_
 refine zca hΓc (Q6c hΓc e he.eo t1.k t1.ne) hou ?_
 refine zM ?_
 refine zca hΓc (Q6c hΓc f hf.eo t2.k t2.ne) hou ?_
 refine zM ?_
 refine zca hΓc (Qgo hΓc hΓcF (grow e) (grow f) (he.t t1.k t1.ne) (hf.t t2.k t2.ne) h3) hou ?_
 refine zM ?_
 exact APure.fin rfl (WkF.ofEq rfl) (by simp) hou rfl
end Go.Proofs.YtpaonemmbhbgoaaGreatDoor
namespace Go.Abs
theorem AStep.wk{E:Env}{o:Oper}{fr:Fr}{σ σ':St}{x y:FV}(h:AStep E o fr σ x σ')(hw:WkF x y):AStep E o fr σ y σ':=
 fun F w C tmps hi hf next Q hk=>h F w C tmps hi hf next Q fun u w' C' a b c=>hk u w' C' a b (hw _ _ _ c)
end Go.Abs
namespace Go.Proofs.YtpaonemmbhbgoaaGreatDoor
open Go Go.Abs Go.CoreX
variable {Γ:List (Nat×List AC)}
mutual
def encNd:Tr->List AC
 |.mk o n b k a=>[int o,int n,.sl 1 (b.map cI),.any,.sl 2 (a.map cAlt),.sl 1 (Q38 k)]
def Q38:List Tr->List (List AC)
 |[]=>[]
 |t::ts=>[.box (encNd t)]::Q38 ts
end
def cNd (t:Tr):List AC:=[int t.op,int t.n,.sl 1 (t.binds.map cI),.any,.sl 2 (t.alts.map cAlt),.sl 1 (Q38 t.kids)]
theorem Qox(t:Tr):encNd t=cNd t:=by cases t;simp[encNd,cNd]
theorem Q73:∀l:List Tr,Q38 l=l.map fun t=>[.box (cNd t)]
 |[]=>rfl
 |t::ts=>by simp[Q38,Q73 ts,Qox]
theorem Qjr{l:List Tr}{i:Nat}{t:Tr}(h:l[i]?=some t):(Q38 l)[i]?=some [.box (cNd t)]:=by rw[Q73];simp[h]
mutual
theorem Qmf(p:Abs.Id->Prop):∀t:Tr,idsL p (encNd t)
 |.mk o n b k a=>by simp[encNd,Q7w p k]
theorem Q7w(p:Abs.Id->Prop):∀l:List Tr,idsS p (Q38 l)
 |[]=>by simp[Q38]
 |t::ts=>by simp[Q38,Qmf p t,Q7w p ts]
end
attribute [simp] Q7w
@[simp] theorem ids_cNd (p:Abs.Id->Prop) (t:Tr):idsL p (cNd t):=by simp[cNd]
@[simp] theorem len_encNds (l:List Tr):(Q38 l).length=l.length:=by rw[Q73];simp
theorem N_ok(op n:Int)(ks:List Tr):APure Tryz.prog Γ 26 [.one (int op),.one (int n),.one (.sl 1 (Q38 ks))] (.one (.box (cNd (.mk op n [] ks [])))):=by
 intro ou
 refine AFn.walk 13 tabOk Tryz.func26 rfl (by kernel_rfl) rfl rfl fun hou=>?_
 iterate 14 (first|((with_reducible refine oj ?_);refine zau ?_)|(with_reducible refine zst ?_)|((with_reducible refine Q0j ?_ ?_);rfl)|(with_reducible refine ok ?_;first|refine ACode.condT rfl ?_|refine ACode.condF rfl ?_))
 refine AOps.freeze1 (.l 0) 6 rfl rfl ?_
 refine zA ?_
 refine APure.fin rfl (.one (Wk.box ?_)) (by simp) hou rfl
 exact .cons (.refl _) (.cons (.refl _) (.cons (.nilS 1) (.cons (.any _) (.cons (.nilS 2) (.cons (.refl _) .nil)))))
theorem V_ok(hΓ:∀g cs,(g,cs)∈Γ->idsL isO cs)(n:Int):APure Tryz.prog Γ 17 [.one (int n)] (.one (.box (cNd (.mk 0 n [] [] [])))):=by
 intro ou
 refine AFn.walk 5 tabOk Tryz.func17 rfl (by kernel_rfl) rfl rfl fun hou=>?_
 refine zA ?_
 refine AOps.callCW (ws:=[.one (int 0),.one (int n),.one (.sl 1 (Q38 []))]) hΓ (N_ok 0 n []) rfl rfl rfl rfl rfl rfl ?_ hou (by simp) ?_
 ·exact .cons (.refl _) (.cons (.refl _) (.cons (.one (.nilS 1)) .nil))
 refine zA ?_
 exact APure.fin rfl (WkF.ofEq rfl) (by simp) hou rfl
def IntoOk (Γ:List (Nat×List AC))(t:Tr):Prop:=∀(ou:Outer)(ko kt:Nat)(out:List Ex),OuOk ou->ou ko=none->ou kt=none->ko≠kt->(listT out t).length<=1048576->
 AFn Tryz.prog Γ 52 [.one (.box (cNd t)),.one (.ptr (.o ko) 0)] (ouS ou ko kt (out.map cEx)) (fun r ou'=>r=.one (int (((listT out t).length:Int) - 1))/\∃kt',ou kt'=none/\ko≠kt'/\ou'=ouS ou ko kt' ((listT out t).map cEx))
set_option maxHeartbeats 1000000 in
theorem Qm6(hΓ:∀g cs,(g,cs)∈Γ->idsL isO cs):∀t:Tr,okT t->IntoOk Γ t
 |.mk o n b ks a,hok=>by
  obtain⟨hb,hk,ha,⟨hab,_⟩,hks⟩:=hok
  have ih:∀t∈ks,IntoOk Γ t:=fun t ht=>Qm6 hΓ t (Q4g.1 hks t ht)
  intro ou ko kt out hou0 ho ht hne hsz
  have hsz2:(Q02 out ks).1.length < 1048576:=by simp only[listT,List.length_append,List.length_singleton]at hsz;omega
  refine AFn.walk 44 tabOk Tryz.func52 rfl (by kernel_rfl) rfl rfl fun hou=>?_
  refine zA ?_
  refine ACode.grow 0 3 3 1 rfl rfl ?_
  refine ACode.loopR hΓ (α:=Nat×Nat) (fun c=>[(18,.one (int c.1)),(17,.one (int (Q38 ks).length)),(16,.one (.sl 1 (Q38 ks))),(5,.one (.ptr (.l 0) 0)),(1,.one (.ptr (.o ko) 0))])
   (fun c=>⟨2,[(1,.tok 3 1 c.1),(0,.cells [int o,int n,.sl 1 (b.map cI),.gs 1 ((Q02 out (ks.take c.1)).2.map cI) (.l 1),.sl 2 (a.map cAlt)])],ouS ou ko c.2 ((Q02 out (ks.take c.1)).1.map cEx)⟩)
   (fun m c=>c.1<=ks.length/\(ou c.2=none/\ko≠c.2)/\m=ks.length - c.1) (a0:=(0,kt)) (ρ:=id) ⟨by omega,⟨ht,hne⟩,rfl⟩ (LessR.of rfl zFS (by simp) ?_ rfl (by simp[Q02];rfl) hou) fun m c hi=>?_
  ·repeat' first|exact LoSub.nil|refine zlc ?_|refine zld ?_ ?_|rfl
   all_goals (simp[AObj.ren,renL,AC.ren,Q02];rfl)
  obtain⟨i,kt⟩:=c
  obtain⟨hil,⟨ht,hne⟩,rfl⟩:=hi
  simp only at hil ht hne
  have hle:(Q02 out (ks.take i)).1.length<=(Q02 out ks).1.length:=by
   have:=Q2u (ks.take i) (ks.drop i) out
   rw[List.take_append_drop]at this
   rw[this];exact Q31 _ _
  refine zA ?_
  refine ACode.cond rfl (fun hb3=>?_) (fun hb3=>?_)
  ·have hlt2:i < ks.length:=by simpa using hb3
   obtain⟨t,ht2⟩:=Q00 hlt2
   have hsn:=Q4i t (ks.take i) out
   rw[←Q0n ht2]at hsn
   have hle2:(listT (Q02 out (ks.take i)).1 t).length<=1048576:=by
    have:=Q2u (ks.take (i+1)) (ks.drop (i+1)) out
    rw[List.take_append_drop]at this
    have h2:=Q31 (ks.drop (i+1)) (Q02 out (ks.take (i+1))).1
    rw[←this,hsn]at h2
    simp only at h2
    omega
   have hcall:=ih t (List.mem_of_getElem? ht2) ou ko kt (Q02 out (ks.take i)).1 hou0 ho ht hne hle2
   have hil2:((Q02 out (ks.take i)).2.map cI).length=i:=by rw[List.length_map,Q3a];simp;omega
   refine zA ?_
   refine zS (zIA rfl rfl rfl (by omega) (Qjr ht2)) ?_
   refine zA ?_
   refine ACode.drawXR (va:=.one (int (((listT (Q02 out (ks.take i)).1 t).length:Int) - 1))) tabOk 6 4 []
    (fun σ=>∃kt',ou kt'=none/\ko≠kt'/\σ=⟨2,[(1,.tok 3 1 i),(0,.cells [int o,int n,.sl 1 (b.map cI),.gs 1 ((Q02 out (ks.take i)).2.map cI) (.l 1),.sl 2 (a.map cAlt)])],ouS ou ko kt' ((listT (Q02 out (ks.take i)).1 t).map cEx)⟩)
    follows (by kernel_rfl) rfl rfl rfl rfl rfl ?_ rfl ⟨rfl,rfl⟩ rfl ?_ .nil ?_ ?_
   ·rintro σ ⟨kt',h1,h2,rfl⟩;rfl
   ·refine Q0w.call hΓ rfl rfl rfl rfl (by simp) (Q37 hou0 (by simp)) hcall fun r ou' hq _ _=>?_
    obtain⟨rfl,kt',h1,h2,rfl⟩:=hq
    exact⟨rfl,kt',h1,h2,rfl⟩
   ·intro σ _;exact .nil
   rintro σ ⟨kt',h1,h2,rfl⟩
   refine zA ?_
   refine AOps.app tabOk rfl rfl rfl rfl rfl rfl rfl rfl rfl (Base.gs' _ _ _ _ _ (by rfl) hil2.symm) (.sl _ _) rfl ?_ ?_ ?_
   ·rw[hil2];show (i+1) * 8<=_;omega
   ·rw[hil2];show i+1<=_;omega
   refine zM ?_
   refine cInv ⟨ks.length - (i+1),(i+1,kt'),fun k=>if k=1 then 2 else k,by omega,⟨by omega,⟨h1,h2⟩,rfl⟩,LessR.of rfl zFS (by simp) ?_ rfl (by simp only[hsn];rfl) (Q37 hou0 (by simp))⟩
   repeat' first|exact LoSub.nil|refine zlc ?_|refine zld ?_ ?_|rfl
   ·simp only[AObj.ren,List.length_append,hil2];rfl
   ·simp only[hsn];simp only[AObj.ren,renL,AC.ren,Q63,Q6p];rw[List.map_append];rfl
  have hlt2:i=ks.length:=by simp at hb3;omega
  subst hlt2
  rw[List.take_length]at *
  refine zA ?_
  have hT:listT out (.mk o n b ks a)=(Q02 out ks).1++[⟨o,n,b,(Q02 out ks).2,a⟩]:=by simp only[listT]
  have hmap:(Q02 out ks).1.map cEx++[cEx ⟨o,n,b,(Q02 out ks).2,a⟩]=(listT out (.mk o n b ks a)).map cEx:=by rw[hT,List.map_append];rfl
  have hw:WkF (.agg [int o,int n,.sl 1 (b.map cI),.gs 1 ((Q02 out ks).2.map cI) (.l 1),.sl 2 (a.map cAlt)]) (.agg (cEx ⟨o,n,b,(Q02 out ks).2,a⟩)):=WkF.agg (.cons (.refl _) (.cons (.refl _) (.cons (.refl _) (.cons (.gsE rfl) (.cons (.refl _) .nil)))))
  have hko:(bif Nat.beq ko kt then some AObj.dead else ouS ou ko kt ((Q02 out ks).1.map cEx) ko)=some (.cells [.gs 5 ((Q02 out ks).1.map cEx) (.o kt)]):=by rw[Q05 hne];exact ouS_o hne _
  refine ACode.drawXH (va:=.one (.gs 5 ((Q02 out ks).1.map cEx++[cEx ⟨o,n,b,(Q02 out ks).2,a⟩]) (.l 2))) (σ1:=(St.set ⟨2,[(1,.tok 3 1 ks.length),(0,.cells [int o,int n,.sl 1 (b.map cI),.gs 1 ((Q02 out ks).2.map cI) (.l 1),.sl 2 (a.map cAlt)])],ouS ou ko kt ((Q02 out ks).1.map cEx)⟩ (.o kt) .dead).push (.tok 57 5 ((Q02 out ks).1.map cEx++[cEx ⟨o,n,b,(Q02 out ks).2,a⟩]).length))
   tabOk 7 6 [(3,.one (.gs 5 ((Q02 out ks).1.map cEx) (.o kt))),(4,.agg (cEx ⟨o,n,b,(Q02 out ks).2,a⟩))] follows (by kernel_rfl) rfl rfl rfl rfl rfl rfl rfl ?_ ?_ ?_ ?_
  ·refine HStep.plain rfl (AStep.append (s:=5) (es:=(Q02 out ks).1.map cEx) (news:=[cEx ⟨o,n,b,(Q02 out ks).2,a⟩]) (ti:=ti22) (σ:=⟨2,[(1,.tok 3 1 ks.length),(0,.cells [int o,int n,.sl 1 (b.map cI),.gs 1 ((Q02 out ks).2.map cI) (.l 1),.sl 2 (a.map cAlt)])],ouS ou ko kt ((Q02 out ks).1.map cEx)⟩) tabOk rfl rfl rfl rfl rfl rfl (Base.gs' _ 57 5 _ (.o kt) (ouS_t ou ko kt _) rfl) (.sl _ _) rfl ?_ ?_)
   ·simp;show (_+1) * 88<=_;omega
   ·simp;omega
  ·refine .step rfl (zHP (zLD rfl rfl (ouS_o hne _) rfl)) ?_
   exact .step rfl (zHP (AStep.wk (AStep.ofOp tabOk rfl) hw)) .nil
  ·refine .step rfl (zHP (zLD rfl rfl hko rfl)) ?_
   exact .step rfl (zHP (AStep.wk (AStep.ofOp tabOk rfl) hw)) .nil
  rw[hmap]
  refine zA ?_
  refine AOps.storeOwn (cs:=[.gs 5 ((Q02 out ks).1.map cEx) (.o kt)]) tabOk rfl rfl rfl rfl rfl rfl rfl hko (by simp) ?_
  refine AOps.cede 2 (show 2 < 3 by omega) fun k hk=>⟨[(1,.one (.ptr (.o ko) 0))],⟨3,[],ouS ou ko k ((listT out (.mk o n b ks a)).map cEx)⟩,⟨fun d x hd=>?_,rfl,fun i x hx=>?_⟩,?_⟩
  ·by_cases e:1=d
   ·subst e
    simp[Fr.get]at hd;subst hd
    exact⟨_,rfl,WkF.ofEq rfl⟩
   ·simp[Fr.get,Q05 e]at hd
  ·have hk':(bif Nat.beq k ko then some (AObj.cells [.gs 5 ((listT out (.mk o n b ks a)).map cEx) (.l 2)])else bif Nat.beq k kt then some AObj.dead else ouS ou ko kt ((Q02 out ks).1.map cEx) k)=none:=hk
   have k1:k≠ko:=fun e=>by subst e;simp at hk'
   rw[Q05 k1]at hk'
   have k2:k≠kt:=fun e=>by subst e;simp at hk'
   rw[Q05 k2]at hk'
   simp only[cond_false,ouS_w k1 k2]at hk'
   cases i with
   |l m=>cases hx
   |o m=>
    have hx':ouS ou ko k ((listT out (.mk o n b ks a)).map cEx) m=some x:=hx
    by_cases e:m=k
    ·subst e
     rw[ouS_t]at hx';cases hx'
     exact⟨.l 2,_,rfl,rfl,rfl⟩
    ·by_cases e2:m=ko
     ·subst e2
      rw[ouS_o e]at hx';cases hx'
      refine⟨.o m,.cells [.gs 5 ((listT out (.mk o n b ks a)).map cEx) (.l 2)],?_,rfl,?_⟩
      ·show (bif Nat.beq m m then _ else _)=_;rw[Q2z];rfl
      ·simp only[AObj.sub,subL,AC.sub];rw[Qb3 _ (by simp)];rfl
     ·rw[ouS_w e2 e]at hx'
      have e3:m≠kt:=fun e=>by rw[e,ht]at hx';cases hx'
      refine⟨.o m,x,?_,rfl,(AObj.sub_o x (hou0 m x hx')).symm⟩
      show (bif Nat.beq m ko then _ else bif Nat.beq m kt then _ else ouS ou ko kt _ m)=_
      rw[Q05 e2,Q05 e3]
      exact (ouS_w e2 e3 _).trans hx'
  ·have hk':(bif Nat.beq k ko then some (AObj.cells [.gs 5 ((listT out (.mk o n b ks a)).map cEx) (.l 2)])else bif Nat.beq k kt then some AObj.dead else ouS ou ko kt ((Q02 out ks).1.map cEx) k)=none:=hk
   have k1:k≠ko:=fun e=>by subst e;simp at hk'
   rw[Q05 k1]at hk'
   have k2:k≠kt:=fun e=>by subst e;simp at hk'
   rw[Q05 k2]at hk'
   simp only[cond_false,ouS_w k1 k2]at hk'
   refine zA ?_
   refine zS (zLD rfl rfl (ouS_o (Ne.symm k1) _) rfl) ?_
   refine zM ?_
   refine AFn.fin' rfl (WkF.ofEq ?_) (by simp) (Q37 hou0 (by simp)) ⟨rfl,k,hk',Ne.symm k1,rfl⟩
   simp
theorem Qgp(hΓ:∀g cs,(g,cs)∈Γ->idsL isO cs)(t:Tr)(ht:okT t)(hsz:(listT [] t).length<=1048576):APure Tryz.prog Γ 19 [.one (.box (cNd t))] (.one (.sl 5 ((listT [] t).map cEx))):=by
 intro ou
 refine AFn.walk 7 tabOk Tryz.func19 rfl (by kernel_rfl) rfl rfl fun hou=>?_
 iterate 11 (first|((with_reducible refine oj ?_);refine zau ?_)|(with_reducible refine zst ?_)|((with_reducible refine Q0j ?_ ?_);rfl)|(with_reducible refine ok ?_;first|refine ACode.condT rfl ?_|refine ACode.condF rfl ?_))
 refine ACode.grow 0 0 57 5 rfl rfl ?_
 refine zA ?_
 refine AOps.cede 0 (show 0 < 2 by omega) fun ko hko=>⟨[(4,.one (.box (cNd t))),(3,.one (.ptr (.o ko) 0))],
  ⟨2, [(1, .tok 57 5 0)], updO ou ko (.cells [.gs 5 [] (.l 1)])⟩, ⟨CedFr.get ?_, rfl, fun i x hx => ?_⟩, ?_⟩
 ·exact .cons rfl (FV.sub_o _ (by simp)) (.cons rfl rfl .nil)
 ·have hko:ou ko=none:=hko
  cases i with
  |l m=>
   by_cases e:1=m
   ·subst e;cases hx;exact⟨.l 1,_,rfl,rfl,rfl⟩
   ·simp[St.get,lookL,Q05 e]at hx
  |o m=>
   have hx':updO ou ko (.cells [.gs 5 [] (.l 1)]) m=some x:=hx
   by_cases e:ko=m
   ·subst e;rw[Q06]at hx';cases hx';exact⟨.l 0,_,rfl,rfl,rfl⟩
   ·rw[Q0c _ e]at hx'
    exact⟨.o m,x,hx',rfl,(AObj.sub_o x (hou m x hx')).symm⟩
 have hko:ou ko=none:=hko
 refine AOps.cede 1 (show 1 < 2 by omega) fun kt hkt=>⟨[(4,.one (.box (cNd t))),(3,.one (.ptr (.o ko) 0))],
  ⟨2, [], ouS ou ko kt (([] : List Ex).map cEx)⟩, ⟨CedFr.get ?_, rfl, fun i x hx => ?_⟩, ?_⟩
 ·exact .cons rfl (FV.sub_o _ (by simp)) (.cons rfl rfl .nil)
 ·have hkt:updO ou ko (.cells [.gs 5 [] (.l 1)]) kt=none:=hkt
  have hkto:ko≠kt:=fun e=>by subst e;rw[Q06]at hkt;cases hkt
  cases i with
  |l m=>cases hx
  |o m=>
   have hx':ouS ou ko kt (([]:List Ex).map cEx) m=some x:=hx
   by_cases e:m=kt
   ·subst e;rw[ouS_t]at hx';cases hx';exact⟨.l 1,_,rfl,rfl,rfl⟩
   ·by_cases e2:m=ko
    ·subst e2;rw[ouS_o hkto]at hx';cases hx'
     exact⟨.o m,.cells [.gs 5 [] (.l 1)],Q06 _ _ _,rfl,rfl⟩
    ·rw[ouS_w e2 e]at hx'
     refine⟨.o m,x,?_,rfl,(AObj.sub_o x (hou m x hx')).symm⟩
     show updO ou ko (.cells [.gs 5 [] (.l 1)]) m=_
     rw[Q0c _ (Ne.symm e2)];exact hx'
 have hkt:updO ou ko (.cells [.gs 5 [] (.l 1)]) kt=none:=hkt
 have hot:ko≠kt:=fun e=>by subst e;rw[Q06]at hkt;cases hkt
 rw[Q0c _ hot]at hkt
 have hcall:=Qm6 hΓ t ht ou ko kt [] hou hko hkt hot hsz
 refine AOps.call1 hΓ rfl rfl rfl rfl rfl rfl rfl (by simp) (Q37 hou (by simp)) hcall fun r ou' hq hids hou'=>?_
 obtain⟨rfl,kt',h1,h2,rfl⟩:=hq
 refine zA ?_
 refine zS (zLD rfl rfl (ouS_o h2 _) rfl) ?_
 refine AOps.wk 6 rfl (y:=.one (.sl 5 ((listT [] t).map cEx))) (.one (.gsE rfl)) ?_
 refine AOps.lessO ⟨2,[],ou⟩ rfl (fun i o ho=>?_) ?_
 ·cases i with
  |l m=>cases ho
  |o m=>
   have ho':ou m=some o:=ho
   show ouS ou ko kt' _ m=some o
   have e1:m≠ko:=fun e=>by rw[e,hko]at ho';cases ho'
   have e3:m≠kt':=fun e=>by rw[←e,ho']at h1;cases h1
   rw[ouS_w e1 e3];exact ho'
 refine zA ?_
 exact APure.fin rfl (WkF.ofEq rfl) (by simp) hou rfl
end Go.Proofs.YtpaonemmbhbgoaaGreatDoor
namespace Go.CoreX
def Q0b (e:List Ex)(k:Nat):Tr:=(growL e).getD k default
theorem Q2a{e:List Ex}(hk:Q0t e){i:Nat}{x:Ex}(hx:e[i]?=some x):Q0b e i=.mk x.op x.n x.binds (x.kids.map fun k=>Q0b e k.toNat) x.alts:=by
 have hi:=(List.getElem?_eq_some_iff.1 hx).1
 have hs:e=e.take i++x::e.drop (i+1):=by
  obtain⟨h2,h3⟩:=List.getElem?_eq_some_iff.1 hx
  rw[←h3,←List.drop_eq_getElem_cons h2,List.take_append_drop]
 have hl:(e.take i).length=i:=by simp;omega
 have h1:=Q5p (e.take i) (e.drop (i+1)) x
 rw[←hs,hl]at h1
 unfold Q0b
 rw[h1]
 simp only[Q2m,Tr.mk.injEq,true_and,and_true]
 refine List.map_congr_left fun k hkk=>?_
 have hb:=hk i x hx k hkk
 have h2:=Q5d (e:=e.take i) (l:=x::e.drop (i+1)) (i:=k.toNat) (by rw[hl];omega)
 rw[←hs]at h2
 exact h2.symm
theorem Qgh:∀{e:List Ex}{k:Nat},0 < cnt e k->∃(i:Nat)(x:Ex),e[i]?=some x/\(k:Int)∈x.kids
 |[],k,h=>by simp[cnt]at h
 |x::e,k,h=>by
  simp only[cnt]at h
  by_cases h1:0 < x.kids.count (k:Int)
  ·exact⟨0,x,rfl,List.count_pos_iff.1 h1⟩
  ·obtain⟨i,y,h2,h3⟩:=Qgh (e:=e) (k:=k) (by omega)
   exact⟨i+1,y,by simpa using h2,h3⟩
theorem Qkb{e:List Ex}(h:IsTree e){P:Tr->Prop}(h0:P (grow e))(h1:∀(t s:Tr),P t->s∈t.kids->P s):∀k,k < e.length->P (Q0b e k):=by
 have key:∀d k,k < e.length->e.length - k=d->P (Q0b e k):=by
  intro d
  induction d using Nat.strongRecOn with
  |_ d ih=>
   intro k hk hd
   by_cases hl:k+1 < e.length
   ·have hc:=(h.c k hk).2 hl
    obtain⟨i,x,hx,hkx⟩:=Qgh (e:=e) (k:=k) (by omega)
    have hb:=h.k i x hx _ hkx
    have hi:=(List.getElem?_eq_some_iff.1 hx).1
    have hp:=ih (e.length - i) (by omega) i hi rfl
    rw[Q2a h.k hx]at hp
    refine h1 _ _ hp ?_
    simp only[Tr.kids_mk,List.mem_map]
    exact⟨_,hkx,by simp⟩
   ·have:k=e.length - 1:=by omega
    subst this
    exact h0
 exact fun k hk=>key _ k hk rfl
mutual
theorem Q61(g:Lab->Int)(hg:∀l,0<=g l):∀t:Tr,0<=sumT g t
 |.mk o m b k a=>by
  simp only[sumT]
  have h1:=hg ⟨o,m,b,k.map Tr.op,a⟩
  have h2:=Q87 g hg k
  omega
theorem Q87(g:Lab->Int)(hg:∀l,0<=g l):∀l:List Tr,0<=sumTs g l
 |[]=>by simp[sumTs]
 |t::l=>by
  simp only[sumTs]
  have h1:=Q61 g hg t
  have h2:=Q87 g hg l
  omega
end
theorem Qnp(g:Lab->Int)(hg:∀l,0<=g l){t s:Tr}(h:s∈t.kids):sumT g s<=sumT g t:=by
 cases t with
 |mk o m b k a=>
  simp only[Tr.kids_mk]at h
  simp only[sumT,Q8m]
  have h1:=hg ⟨o,m,b,k.map Tr.op,a⟩
  have:sumT g s<=(k.map (sumT g)).sum:=by
   clear h1
   induction k with
   |nil=>cases h
   |cons r k ih=>
    simp only[List.map_cons,List.sum_cons]
    have hr:=Q61 g hg r
    have hk:0<=(k.map (sumT g)).sum:=by
     clear ih h
     induction k with
     |nil=>simp
     |cons q k ihk=>
      simp only[List.map_cons,List.sum_cons]
      have:=Q61 g hg q
      omega
    rcases List.mem_cons.1 h with rfl|h
    ·omega
    ·have:=ih h;omega
  omega
theorem Q2k{t s:Tr}(ht:okT t)(h:s∈t.kids):okT s:=by
 cases t with
 |mk o m b k a=>exact Q4g.1 ht.2.2.2.2 s h
theorem Qgy(g:Lab->Int)(hg:∀l,0<=g l){e:List Ex}(h:IsTree e){k:Nat}(hk:k < e.length):((labs (listT [] (Q0b e k))).map g).sum<=((labs e).map g).sum:=by
 have h1:=Q4d g (Q16 (Q0b e k))
 rw[Q12]at h1
 rw[h1,Q4d g h]
 exact Qkb h (P:=fun t=>sumT g t<=sumT g (grow e)) (Int.le_refl _) (fun t s ht hs=>Int.le_trans (Qnp g hg hs) ht) k hk
theorem labs_sub{e:List Ex}(h:IsTree e){k:Nat}(hk:k < e.length)(l:Lab)(hl:l∈labs (listT [] (Q0b e k))):l∈labs e:=by
 have h1:=Qgy (fun l'=>if l'=l then (1:Int)else 0) (fun l'=>by split <;> omega) h hk
 rw[Q94,Q94]at h1
 have h2:=List.count_pos_iff.2 hl
 exact List.count_pos_iff.1 (by omega)
theorem Qc8:∀ls:List Lab,(ls.map fun _=>(1:Int)).sum=ls.length
 |[]=>rfl
 |l::ls=>by simp only[List.map_cons,List.sum_cons,Qc8 ls,List.length_cons];omega
theorem len_sub{e:List Ex}(h:IsTree e){k:Nat}(hk:k < e.length):(listT [] (Q0b e k)).length<=e.length:=by
 have h1:=Qgy (fun _=>(1:Int)) (fun _=>by omega) h hk
 rw[Qc8,Qc8,Q3t,Q3t]at h1
 omega
end Go.CoreX
