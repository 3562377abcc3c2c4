/- A record with a value at a label, walked. -/
import Derived.Test.YtmdkenkhaicbeaaGreatDoorD12
set_option maxRecDepth 10000
set_option linter.unusedVariables false
set_option linter.unusedSimpArgs false
namespace Go.Proofs.YtmdkenkhaicbeaaGreatDoor
open Go Go.Abs Go.CoreX
variable {Γ:List (Nat×List AC)}
def Qdd (s:Nat)(es:List (List AC))(ou:Outer)(r:FV)(ou':Outer):Prop:=
 (es=[]/\r=.one (.lit (.slice none 0 0))/\ou'=ou)∨∃k cap,ou k=none/\es.length<=cap/\r=.one (.arr (.o k) s 0 es.length cap)/\ou'=updO ou k (.cells (vec s es cap))
theorem Qg5(hΓ:∀g cs,(g,cs)∈Γ->idsL isO cs)(es:List (List AC))(hes:∀x∈es,x.length=1)(hids:idsS isO es)(hl:es.length<=1048576)(ou:Outer):AFn Tryz.prog Γ 73 [.one (.sl 1 es)] ou (Qdd 1 es ou):=by
 refine AFn.walk 8 tabOk Tryz.func73 rfl (by kernel_rfl) rfl rfl fun hou=>?_
 refine zA ?_
 refine AOps.nilTest rfl rfl rfl rfl Tryz.underlying28 rfl rfl fun b hb=>?_
 cases b with
 |true=>
  have hz:es=[]:=by have:=hb rfl;simpa using this
  subst hz
  refine zA ?_
  exact AFn.fin' rfl (.refl _) (by simp) hou (.inl ⟨rfl,rfl,rfl⟩)
 |false=>
  refine zA ?_
  refine zS (AStep.buildOwn0 tabOk rfl rfl rfl rfl rfl) ?_
  refine zA ?_
  by_cases hz:es=[]
  ·subst hz
   refine zS (AStep.appNone tabOk rfl rfl rfl rfl rfl rfl) ?_
   refine AOps.cede 0 (show 0 < 1 by omega) fun k hk=>⟨[(7,.one (.arr (.o k) 1 0 0 0))],⟨1,[],updO ou k (.cells (vec 1 [] 0))⟩,⟨CedFr.get (.cons rfl rfl .nil),rfl,fun i x hx=>?_⟩,?_⟩
   ·have hk:ou k=none:=hk
    cases i with
    |l m=>cases hx
    |o m=>
     have hx':updO ou k (.cells (vec 1 [] 0)) m=some x:=hx
     by_cases e:k=m
     ·subst e;rw[Q03]at hx';cases hx'
      exact⟨.l 0,_,rfl,rfl,(AObj.sub_o _ (Q09 _ hids)).symm⟩
     ·rw[Q06 _ e]at hx'
      exact⟨.o m,x,hx',rfl,(AObj.sub_o x (hou m x hx')).symm⟩
   refine zA ?_
   exact AFn.fin' rfl (.refl _) (by simp) (Q0o hou (Q09 _ hids)) (.inr ⟨k,0,hk,by simp,rfl,rfl⟩)
  ·refine AOps.appOwn tabOk rfl rfl rfl rfl rfl rfl rfl rfl rfl (.own 1 0 [] (.l 0) rfl (by simp) (by simp)) (.sl 1 es) (by simpa using hz) rfl (by simp;show _ * 8<=_;omega) (by simp;omega) fun cap hc=>?_
   refine AOps.cede 1 (show 1 < 2 by omega) fun k hk=>⟨[(7,.one (.arr (.o k) 1 0 es.length cap))],⟨2,[],updO ou k (.cells (vec 1 es cap))⟩,⟨CedFr.get (.cons rfl rfl .nil),rfl,fun i x hx=>?_⟩,?_⟩
   ·have hk:ou k=none:=hk
    cases i with
    |l m=>cases hx
    |o m=>
     have hx':updO ou k (.cells (vec 1 es cap)) m=some x:=hx
     by_cases e:k=m
     ·subst e;rw[Q03]at hx';cases hx'
      exact⟨.l 1,_,rfl,rfl,(AObj.sub_o _ (Q09 _ hids)).symm⟩
     ·rw[Q06 _ e]at hx'
      exact⟨.o m,x,hx',rfl,(AObj.sub_o x (hou m x hx')).symm⟩
   refine zA ?_
   exact AFn.fin' rfl (.refl _) (by simp) (Q0o hou (Q09 _ hids)) (.inr ⟨k,cap,hk,by simpa using hc,rfl,rfl⟩)
theorem Qg4(hΓ:∀g cs,(g,cs)∈Γ->idsL isO cs)(es:List (List AC))(hes:∀x∈es,x.length=1)(hids:idsS isO es)(hl:es.length<=1048576)(ou:Outer):AFn Tryz.prog Γ 119 [.one (.sl 1 es)] ou (Qdd 1 es ou):=by
 refine AFn.walk 8 tabOk Tryz.func119 rfl (by kernel_rfl) rfl rfl fun hou=>?_
 refine zA ?_
 refine AOps.nilTest rfl rfl rfl rfl Tryz.underlying166 rfl rfl fun b hb=>?_
 cases b with
 |true=>
  have hz:es=[]:=by have:=hb rfl;simpa using this
  subst hz
  refine zA ?_
  exact AFn.fin' rfl (.refl _) (by simp) hou (.inl ⟨rfl,rfl,rfl⟩)
 |false=>
  refine zA ?_
  refine zS (AStep.buildOwn0 tabOk rfl rfl rfl rfl rfl) ?_
  refine zA ?_
  by_cases hz:es=[]
  ·subst hz
   refine zS (AStep.appNone tabOk rfl rfl rfl rfl rfl rfl) ?_
   refine AOps.cede 0 (show 0 < 1 by omega) fun k hk=>⟨[(7,.one (.arr (.o k) 1 0 0 0))],⟨1,[],updO ou k (.cells (vec 1 [] 0))⟩,⟨CedFr.get (.cons rfl rfl .nil),rfl,fun i x hx=>?_⟩,?_⟩
   ·have hk:ou k=none:=hk
    cases i with
    |l m=>cases hx
    |o m=>
     have hx':updO ou k (.cells (vec 1 [] 0)) m=some x:=hx
     by_cases e:k=m
     ·subst e;rw[Q03]at hx';cases hx'
      exact⟨.l 0,_,rfl,rfl,(AObj.sub_o _ (Q09 _ hids)).symm⟩
     ·rw[Q06 _ e]at hx'
      exact⟨.o m,x,hx',rfl,(AObj.sub_o x (hou m x hx')).symm⟩
   refine zA ?_
   exact AFn.fin' rfl (.refl _) (by simp) (Q0o hou (Q09 _ hids)) (.inr ⟨k,0,hk,by simp,rfl,rfl⟩)
  ·refine AOps.appOwn tabOk rfl rfl rfl rfl rfl rfl rfl rfl rfl (.own 1 0 [] (.l 0) rfl (by simp) (by simp)) (.sl 1 es) (by simpa using hz) rfl (by simp;show _ * 16<=_;omega) (by simp;omega) fun cap hc=>?_
   refine AOps.cede 1 (show 1 < 2 by omega) fun k hk=>⟨[(7,.one (.arr (.o k) 1 0 es.length cap))],⟨2,[],updO ou k (.cells (vec 1 es cap))⟩,⟨CedFr.get (.cons rfl rfl .nil),rfl,fun i x hx=>?_⟩,?_⟩
   ·have hk:ou k=none:=hk
    cases i with
    |l m=>cases hx
    |o m=>
     have hx':updO ou k (.cells (vec 1 es cap)) m=some x:=hx
     by_cases e:k=m
     ·subst e;rw[Q03]at hx';cases hx'
      exact⟨.l 1,_,rfl,rfl,(AObj.sub_o _ (Q09 _ hids)).symm⟩
     ·rw[Q06 _ e]at hx'
      exact⟨.o m,x,hx',rfl,(AObj.sub_o x (hou m x hx')).symm⟩
   refine zA ?_
   exact AFn.fin' rfl (.refl _) (by simp) (Q0o hou (Q09 _ hids)) (.inr ⟨k,cap,hk,by simpa using hc,rfl,rfl⟩)
def CQ (es:List (List AC))(ou:Outer)(c:AC)(ou':Outer):Prop:=
 (es=[]/\c=.lit (.slice none 0 0)/\ou'=ou)∨∃k cap,ou k=none/\es.length<=cap/\c=.arr (.o k) 1 0 es.length cap/\ou'=updO ou k (.cells (vec 1 es cap))
theorem CQ.of{es:List (List AC)}{ou ou':Outer}{r:FV}(h:Qdd 1 es ou r ou'):∃c,r=.one c/\CQ es ou c ou':=by
 rcases h with ⟨h1,rfl,h2⟩|⟨k,cap,h1,h2,rfl,h3⟩
 ·exact⟨_,rfl,.inl ⟨h1,rfl,h2⟩⟩
 ·exact⟨_,rfl,.inr ⟨k,cap,h1,h2,rfl,h3⟩⟩
theorem CQ.ids{es:List (List AC)}{ou ou':Outer}{c:AC}(h:CQ es ou c ou'):c.ids isO:=by
 rcases h with ⟨h1,rfl,h2⟩|⟨k,cap,h1,h2,rfl,h3⟩ <;> trivial
theorem CQ.ok{es:List (List AC)}{ou ou':Outer}{c:AC}(h:CQ es ou c ou')(ho:OuOk ou)(hes:idsS isO es):OuOk ou':=by
 rcases h with ⟨h1,rfl,rfl⟩|⟨k,cap,h1,h2,rfl,rfl⟩
 ·exact ho
 ·exact Q0o ho (Q09 _ hes)
theorem CQ.old{es:List (List AC)}{ou ou':Outer}{c:AC}(h:CQ es ou c ou'):∀k o,ou k=some o->ou' k=some o:=by
 rcases h with ⟨h1,rfl,rfl⟩|⟨k,cap,h1,h2,rfl,rfl⟩
 ·exact fun _ _ h=>h
 ·intro m o hm
  rw[Q06 _ (by rintro rfl;rw[h1]at hm;cases hm)];exact hm
theorem Qja{cs:List (List AC)}{cap i:Nat}(c:AC)(h1:∀x∈cs,x.length=1)(hi:i < cs.length):(vec 1 cs cap).set i c=vec 1 (cs.set i [c]) cap:=by
 have hf:∀{cs:List (List AC)},(∀x∈cs,x.length=1)->cs.flatten.length=cs.length:=fun {cs} h=>by
  have:=Q2h h;omega
 have hs:∀{cs:List (List AC)}{i:Nat},(∀x∈cs,x.length=1)->cs.flatten.set i c=(cs.set i [c]).flatten:=by
  intro cs
  induction cs with
  |nil=>intro i _;simp
  |cons x cs ih=>
   intro i h
   have hx:=h x (by simp)
   match x,hx with
   |[y],_=>
    cases i with
    |zero=>simp
    |succ i=>simp only[List.flatten_cons,List.singleton_append,List.set_cons_succ];rw[ih fun z hz=>h z (by simp[hz])]
 unfold vec
 rw[List.set_append_left _ _ (by rw[hf h1];exact hi),hs h1,List.length_set]
def HAr (es:List (List AC))(c:AC)(own:Nat->Prop)(ou ou2:Outer):Prop:=
 (es=[]/\c=.lit (.slice none 0 0)/\own=fun _=>False)∨∃k cap,ou k=none/\es.length<=cap/\c=.arr (.o k) 1 0 es.length cap/\ou2 k=some (.cells (vec 1 es cap))/\own=fun m=>m=k
theorem HAr.own{es:List (List AC)}{c:AC}{own:Nat->Prop}{ou ou2:Outer}(h:HAr es c own ou ou2):∀m,own m->ou m=none:=by
 rcases h with ⟨_,_,rfl⟩|⟨k,cap,h1,_,_,_,rfl⟩
 ·exact fun m hm=>hm.elim
 ·rintro m rfl;exact h1
theorem HAr.some{es:List (List AC)}{c:AC}{own:Nat->Prop}{ou ou2:Outer}(h:HAr es c own ou ou2):∀m,own m->ou2 m≠none:=by
 rcases h with ⟨_,_,rfl⟩|⟨k,cap,h1,_,_,h2,rfl⟩
 ·exact fun m hm=>hm.elim
 ·rintro m rfl;rw[h2];simp
theorem HAr.frame{es:List (List AC)}{c:AC}{own:Nat->Prop}{ou ou2 ou3:Outer}(h:HAr es c own ou ou2)(h3:∀m,own m->ou3 m=ou2 m):HAr es c own ou ou3:=by
 rcases h with ⟨h1,h2,rfl⟩|⟨k,cap,h1,h2,h4,h5,rfl⟩
 ·exact .inl ⟨h1,h2,rfl⟩
 ·exact .inr ⟨k,cap,h1,h2,h4,(h3 k rfl).trans h5,rfl⟩
theorem CQ.har{es:List (List AC)}{ou ou1:Outer}{c:AC}(h:CQ es ou c ou1):∃own,HAr es c own ou ou1/\∀m,¬own m->ou1 m=ou m:=by
 rcases h with ⟨h1,h2,rfl⟩|⟨k,cap,h1,h2,h4,rfl⟩
 ·exact⟨_,.inl ⟨h1,h2,rfl⟩,fun _ _=>rfl⟩
 ·exact⟨_,.inr ⟨k,cap,h1,h2,h4,Q03 _ _ _,rfl⟩,fun m hm=>Q06 _ (fun e=>hm e.symm) _⟩
theorem insN(hΓ:∀g cs,(g,cs)∈Γ->idsL isO cs)(e0:List AC)(he1:e0.length=1)(hei:idsL isO e0){es:List (List AC)}(hes:∀x∈es,x.length=1)(hids:idsS isO es)(hl:es.length<=1048576){i:Nat}(hi:i<=es.length){c:AC}{own:Nat->Prop}{ou ou2:Outer}(h:HAr es c own ou ou2):
  AFn Tryz.prog Γ 195 [.one c,.one (int i),.one (.sl 1 [e0])] ou2 (InsQN own (putAt es i e0) ou2):=by
 rcases h with ⟨rfl,rfl,rfl⟩|⟨k,cap,h1,h2,rfl,h5,rfl⟩
 ·obtain rfl:i=0:=by simpa using hi
  exact Qan hΓ e0 he1 hei ou2
 ·exact Qg1 hΓ e0 he1 hei es hes hids hl i hi ou2 k cap h2 h5
theorem insW(hΓ:∀g cs,(g,cs)∈Γ->idsL isO cs)(e0:List AC)(he1:e0.length=1)(hei:idsL isO e0){es:List (List AC)}(hes:∀x∈es,x.length=1)(hids:idsS isO es)(hl:es.length<=1048576){i:Nat}(hi:i<=es.length){c:AC}{own:Nat->Prop}{ou ou2:Outer}(h:HAr es c own ou ou2):
  AFn Tryz.prog Γ 196 [.one c,.one (int i),.one (.sl 1 [e0])] ou2 (InsQW own (putAt es i e0) ou2):=by
 rcases h with ⟨rfl,rfl,rfl⟩|⟨k,cap,h1,h2,rfl,h5,rfl⟩
 ·obtain rfl:i=0:=by simpa using hi
  exact Qam hΓ e0 he1 hei ou2
 ·exact Qg0 hΓ e0 he1 hei es hes hids hl i hi ou2 k cap h2 h5
theorem Q7g(l:List Int)(i:Nat)(n:Int):putAt (l.map cI) i [int n]=(putAt l i n).map cI:=by simp[putAt,cI,List.map_take,List.map_drop]
structure RwG (ou ou3:Outer)(L:List (List AC))(k3 cap3:Nat):Prop where
 n:ou k3=none
 c:L.length<=cap3
 o:ou3 k3=some (.cells (vec 1 L cap3))
structure RwF (ou ou4:Outer)(L C:List (List AC))(k3 cap3 k4 cap4:Nat):Prop where
 a:RwG ou ou4 L k3 cap3
 b:RwG ou ou4 C k4 cap4
 ne:k3≠k4
 old:∀m o,ou m=some o->ou4 m=some o
 ok:OuOk ou4
def rwL (ls:List Int)(n:Int):List Int:=if bsIs ls n then ls else putAt ls (bsAt ls n) n
def rwC (ls:List Int)(n:Int)(cs:List (List AC))(c:AC):List (List AC):=if bsIs ls n then cs.set (bsAt ls n) [c]else putAt cs (bsAt ls n) [c]
theorem cI1(l:List Int):∀x∈l.map cI,x.length=1:=fun x hx=>by
 obtain⟨i,_,rfl⟩:=List.mem_map.1 hx;rfl
theorem Qjl(hΓ:∀g cs,(g,cs)∈Γ->idsL isO cs){ls:List Int}{cs:List (List AC)}(hlc:ls.length=cs.length)(h1:∀x∈cs,x.length=1)(hids:idsS isO cs)(hl:ls.length<=1048576)(n:Int)(c:AC)(hc:c.ids isO):
  APure Tryz.prog Γ 182 [.one (.box [.sl 1 (ls.map cI),.sl 1 cs]),.one (int n),.one c] (.one (.box [.sl 1 ((rwL ls n).map cI),.sl 1 (rwC ls n cs c)])):=by
 intro ou
 refine AFn.forget (AFn.mono (Q:=fun r ou'=>r=.one (.box [.sl 1 ((rwL ls n).map cI),.sl 1 (rwC ls n cs c)])/\∀k o,ou k=some o->ou' k=some o) ?_ fun r ou' h=>⟨ou,h.2,h.1,rfl⟩)
 refine AFn.walk 63 tabOk Tryz.func182 rfl (by kernel_rfl) rfl rfl fun hou=>?_
 have hli:idsS isO (ls.map cI):=by simp
 refine zA ?_
 refine zca hΓ (Q4p hΓ ls hl n) hou ?_
 refine zA ?_
 refine ACode.drawC2 tabOk 12 [4,9,10,11] [] (fun vs σ=>match vs with
   |[]=>σ=⟨0,[],ou⟩
   |[a]=>∃ca ou1,a=.one ca/\CQ (ls.map cI) ou ca ou1/\σ=⟨0,[],ou1⟩
   |[a,b]=>∃ca cb ou1 ou2,a=.one ca/\b=.one cb/\CQ (ls.map cI) ou ca ou1/\CQ cs ou1 cb ou2/\σ=⟨0,[],ou2⟩
   |[a,b,d]=>∃ca cb ou1 ou2,a=.one ca/\b=.one cb/\CQ (ls.map cI) ou ca ou1/\CQ cs ou1 cb ou2/\d=.agg [ca,cb]/\σ=⟨0,[],ou2⟩
   |[a,b,d,e]=>∃ca cb ou1 ou2,a=.one ca/\b=.one cb/\CQ (ls.map cI) ou ca ou1/\CQ cs ou1 cb ou2/\e=.one (.ptr (.l 0) 0)/\σ=⟨1,[(0,.cells [ca,cb])],ou2⟩
   |_=>False) follows (by kernel_rfl) rfl rfl (by decide) (by kernel_rfl) (by kernel_rfl) rfl rfl ?_ ?_ (by decide) ?_ ?_
 ·intro vs σ h
  match vs with
  |[]=>subst h;rfl
  |[_]=>obtain⟨_,_,_,_,rfl⟩:=h;rfl
  |[_,_]=>obtain⟨_,_,_,_,_,_,_,_,rfl⟩:=h;rfl
  |[_,_,_]=>obtain⟨_,_,_,_,_,_,_,_,_,rfl⟩:=h;rfl
  |[_,_,_,_]=>obtain⟨_,_,_,_,_,_,_,_,_,rfl⟩:=h;rfl
  |_::_::_::_::_::_=>exact h.elim
 ·intro vs σ h
  trivial
 ·intro vs σ h i o hi ho
  match vs with
  |[]=>
   subst h;cases hi;cases ho
   refine⟨rfl,.inl (.inr ⟨rfl,Q0y.call hΓ rfl rfl rfl rfl ⟨hli,trivial⟩ hou (Qg5 hΓ _ (cI1 ls) hli (by simpa using hl) ou) fun r ou' hq hr ho=>?_⟩)⟩
   obtain⟨ca,rfl,hqc⟩:=CQ.of hq
   exact⟨ca,ou',rfl,hqc,rfl⟩
  |[_]=>
   obtain⟨ca,ou1,rfl,hq,rfl⟩:=h;cases hi;cases ho
   refine⟨rfl,.inl (.inr ⟨rfl,Q0y.call hΓ rfl rfl rfl rfl ⟨hids,trivial⟩ (hq.ok hou hli) (Qg4 hΓ _ h1 hids (by omega) ou1) fun r ou' hq2 hr ho=>?_⟩)⟩
   obtain⟨cb,rfl,hqc⟩:=CQ.of hq2
   exact⟨ca,cb,ou1,ou',rfl,rfl,hq,hqc,rfl⟩
  |[_,_]=>obtain⟨ca,cb,ou1,ou2,rfl,rfl,hq,hq2,rfl⟩:=h;cases hi;cases ho;exact⟨rfl,.inl (.inl ⟨_,_,AStep.ofOp tabOk rfl,ca,cb,ou1,ou2,rfl,rfl,hq,hq2,rfl,rfl⟩)⟩
  |[_,_,_]=>obtain⟨ca,cb,ou1,ou2,rfl,rfl,hq,hq2,rfl,rfl⟩:=h;cases hi;cases ho;exact⟨rfl,.inl (.inl ⟨_,_,AStep.ofOp tabOk rfl,ca,cb,ou1,ou2,rfl,rfl,hq,hq2,rfl,rfl⟩)⟩
  |_::_::_::_::_=>cases hi
 ·intro vs σ hl2 h
  match vs with
  | [_, _, _, _] =>
   obtain⟨ca,cb,ou1,ou2,rfl,rfl,hq1,hq2,rfl,rfl⟩:=h
   have hou1:=hq1.ok hou hli
   have hou2:=hq2.ok hou1 hids
   have hold:∀k o,ou k=some o->ou2 k=some o:=fun k o h=>hq2.old k o (hq1.old k o h)
   refine zA ?_
   by_cases hbs:bsIs ls n=true
   ·have hlt:bsAt ls n < ls.length:=by simp[bsIs]at hbs;exact hbs.1
    rcases hq1 with ⟨hz,_,_⟩|⟨k1,cap1,hk1,hc1,rfl,rfl⟩
    ·have:ls.length=0:=by simpa using congrArg List.length hz
     omega
    rcases hq2 with ⟨hz,_,_⟩|⟨k2,cap2,hk2,hc2,rfl,rfl⟩
    ·have:cs.length=0:=by rw[hz];rfl
     omega
    refine ACode.wk 31 rfl (y:=.one (.lit (.bool true))) (.ofEq (by rw[hbs])) ?_
    refine zA ?_
    have hkk:k1≠k2:=by
     rintro rfl
     rw[Q03]at hk2;cases hk2
    refine zS (AStep.idxOwn tabOk rfl rfl rfl rfl rfl rfl rfl (by omega)) ?_
    refine AOps.storeOwn tabOk rfl rfl rfl rfl rfl rfl rfl (Q03 _ _ _) (by rw[Q47 h1 hc2];omega) ?_
    rw[show (0 * 1+bsAt ls n * 1)=bsAt ls n by omega,Qja c h1 (by omega),Q1n,Q5y]
    have h1':∀x∈cs.set (bsAt ls n) [c],x.length=1:=fun x hx=>by
     rcases List.mem_or_eq_of_mem_set hx with h|rfl
     ·exact h1 x h
     ·rfl
    have hids':idsS isO (cs.set (bsAt ls n) [c]):=Q1k.2 fun x hx=>by
     rcases List.mem_or_eq_of_mem_set hx with h|rfl
     ·exact Q1k.1 hids x h
     ·exact⟨hc,trivial⟩
    have hk2':ou k2=none:=by rwa [Q06 _ hkk]at hk2
    refine AOps.freezeArrO (.o k1) (.l 0) 0 (s:=1) (cap:=cap1) (es:=ls.map cI) (cs:=[.arr (.o k1) 1 0 (ls.map cI).length cap1,.arr (.o k2) 1 0 cs.length cap2]) (by show updO _ _ _ _=_;rw[Q06 _ (fun e=>hkk e.symm),Q03]) (cI1 ls) rfl rfl ?_
    refine AOps.stEq (σ':=⟨1,[(0,.cells [.sl 1 (ls.map cI),.arr (.o k2) 1 0 cs.length cap2]),(0,.cells [.arr (.o k1) 1 0 (ls.map cI).length cap1,.arr (.o k2) 1 0 cs.length cap2])],updO (updO (updO ou k1 (.cells (vec 1 (ls.map cI) cap1))) k2 (.cells (vec 1 (cs.set (bsAt ls n) [c]) cap2))) k1 .dead⟩) (by rw[Q1n];rfl) ?_
    refine AOps.freezeArrO (.o k2) (.l 0) 1 (s:=1) (cap:=cap2) (es:=cs.set (bsAt ls n) [c]) (cs:=[.sl 1 (ls.map cI),.arr (.o k2) 1 0 cs.length cap2]) (by show updO _ _ _ _=_;rw[Q06 _ hkk,Q03]) h1' rfl (by rw[List.length_set];rfl) ?_
    refine AOps.stEq (σ':=⟨1,[(0,.cells [.sl 1 (ls.map cI),.sl 1 (cs.set (bsAt ls n) [c])]),(0,.cells [.sl 1 (ls.map cI),.arr (.o k2) 1 0 cs.length cap2]),(0,.cells [.arr (.o k1) 1 0 (ls.map cI).length cap1,.arr (.o k2) 1 0 cs.length cap2])],updO (updO (updO (updO ou k1 (.cells (vec 1 (ls.map cI) cap1))) k2 (.cells (vec 1 (cs.set (bsAt ls n) [c]) cap2))) k1 .dead) k2 .dead⟩) (by rw[Q1n];rfl) ?_
    refine AOps.freeze1 (.l 0) 9 rfl rfl ?_
    refine zA ?_
    refine AFn.fin' rfl (WkF.refl _) ⟨hli,hids',trivial⟩ (Q0o (Q0o (Q0o (Q0o hou (Q09 _ hli)) (Q09 _ hids')) trivial) trivial) ⟨by simp[rwL,rwC,hbs],fun m o hm=>?_⟩
    have e1:k1≠m:=by rintro rfl;rw[hk1]at hm;cases hm
    have e2:k2≠m:=by rintro rfl;rw[hk2']at hm;cases hm
    show updO _ _ _ _=_
    rw[Q06 _ e2,Q06 _ e1,Q06 _ e2,Q06 _ e1];exact hm
   ·have hbf:bsIs ls n=false:=by simpa using hbs
    refine ACode.wk 31 rfl (y:=.one (.lit (.bool false))) (.ofEq (by rw[hbf])) ?_
    refine zA ?_
    obtain⟨ownA,hA,hfA⟩:=hq1.har
    obtain⟨ownB,hB,hfB⟩:=hq2.har
    have hAB:∀m,ownA m->¬ownB m:=fun m ha hb=>hA.some m ha (hB.own m hb)
    have hA2:HAr (ls.map cI) ca ownA ou ou2:=hA.frame fun m hm=>hfB m (hAB m hm)
    have hB2:HAr cs cb ownB ou ou2:=by
     rcases hB with ⟨h1,h2,rfl⟩|⟨k,cap,h1,h2,h4,h5,rfl⟩
     ·exact .inl ⟨h1,h2,rfl⟩
     ·refine .inr ⟨k,cap,?_,h2,h4,h5,rfl⟩
      cases ho:ou k with
      |none=>rfl
      |some o=>rw[hq1.old k o ho]at h1;cases h1
    have hat:=bsAt_le ls n
    have hcai:=hq1.ids
    have hcbi:=hq2.ids
    have hLid:idsS isO (putAt (ls.map cI) (bsAt ls n) [int n]):=by rw[Q7g];simp
    have hCid:idsS isO (putAt cs (bsAt ls n) [c]):=Q1k.2 fun x hx=>by
     unfold putAt at hx
     simp only[List.mem_append,List.mem_singleton]at hx
     rcases hx with (hx|rfl)|hx
     ·exact Q1k.1 hids x (List.mem_of_mem_take hx)
     ·exact⟨hc,trivial⟩
     ·exact Q1k.1 hids x (List.mem_of_mem_drop hx)
    have hC1:∀x∈putAt cs (bsAt ls n) [c],x.length=1:=fun x hx=>by
     unfold putAt at hx
     simp only[List.mem_append,List.mem_singleton]at hx
     rcases hx with (hx|rfl)|hx
     ·exact h1 x (List.mem_of_mem_take hx)
     ·rfl
     ·exact h1 x (List.mem_of_mem_drop hx)
    obtain⟨L,hL⟩:∃L,L=putAt (ls.map cI) (bsAt ls n) [int n]:=⟨_,rfl⟩
    obtain⟨D,hD⟩:∃D,D=putAt cs (bsAt ls n) [c]:=⟨_,rfl⟩
    rw[←hL]at hLid
    rw[←hD]at hCid hC1
    have hL1:∀x∈L,x.length=1:=by rw[hL,Q7g];exact cI1 _
    refine ACode.drawC3 tabOk 23 [9,17,18,19,20,21,22] [(5,0),(13,1)] [(5,.one ca),(13,.one cb),(8,.one (.sl 1 [[int n]])),(16,.one (.sl 1 [[c]]))] (fun vs σ=>match vs with
     |[]=>σ=⟨1,[(0,.cells [ca,cb])],ou2⟩
     |[a]=>∃k3 cap3 ou3,a=.one (.arr (.o k3) 1 0 L.length cap3)/\RwG ou ou3 L k3 cap3/\HAr cs cb ownB ou ou3/\¬ownB k3/\(∀m o,ou m=some o->ou3 m=some o)/\OuOk ou3/\σ=⟨1,[(0,.cells [ca,cb])],ou3⟩
     |[a,b]=>∃k3 cap3 k4 cap4 ou4,a=.one (.arr (.o k3) 1 0 L.length cap3)/\b=.one (.arr (.o k4) 1 0 D.length cap4)/\RwF ou ou4 L D k3 cap3 k4 cap4/\σ=⟨1,[(0,.cells [ca,cb])],ou4⟩
     |[a,b,p]=>∃k3 cap3 k4 cap4 ou4,a=.one (.arr (.o k3) 1 0 L.length cap3)/\b=.one (.arr (.o k4) 1 0 D.length cap4)/\RwF ou ou4 L D k3 cap3 k4 cap4/\p=.one (.ptr (.l 0) 0)/\σ=⟨1,[(0,.cells [ca,cb])],ou4⟩
     |[a,b,p,q]=>∃k3 cap3 k4 cap4 ou4,a=.one (.arr (.o k3) 1 0 L.length cap3)/\b=.one (.arr (.o k4) 1 0 D.length cap4)/\RwF ou ou4 L D k3 cap3 k4 cap4/\p=.one (.ptr (.l 0) 0)/\q=.one (.ptr (.l 0) 0)/\σ=⟨1,[(0,.cells [ca,cb])],ou4⟩
     |[a,b,p,q,_]=>∃k3 cap3 k4 cap4 ou4,a=.one (.arr (.o k3) 1 0 L.length cap3)/\b=.one (.arr (.o k4) 1 0 D.length cap4)/\RwF ou ou4 L D k3 cap3 k4 cap4/\σ=⟨1,[(0,.cells [.arr (.o k3) 1 0 L.length cap3,cb]),(0,.cells [ca,cb])],ou4⟩
     |[a,b,p,q,_,p2]=>∃k3 cap3 k4 cap4 ou4,a=.one (.arr (.o k3) 1 0 L.length cap3)/\b=.one (.arr (.o k4) 1 0 D.length cap4)/\RwF ou ou4 L D k3 cap3 k4 cap4/\p2=.one (.ptr (.l 0) 0)/\σ=⟨1,[(0,.cells [.arr (.o k3) 1 0 L.length cap3,cb]),(0,.cells [ca,cb])],ou4⟩
     |[a,b,p,q,_,p2,q2]=>∃k3 cap3 k4 cap4 ou4,a=.one (.arr (.o k3) 1 0 L.length cap3)/\b=.one (.arr (.o k4) 1 0 D.length cap4)/\RwF ou ou4 L D k3 cap3 k4 cap4/\q2=.one (.ptr (.l 0) 1)/\σ=⟨1,[(0,.cells [.arr (.o k3) 1 0 L.length cap3,cb]),(0,.cells [ca,cb])],ou4⟩
     |_=>False) follows (by kernel_rfl) rfl rfl (by decide) (by kernel_rfl) (by kernel_rfl) (by kernel_rfl) rfl rfl ?_ ?_ ?_ (by decide) ?_ ?_
    ·intro vs σ h
     match vs with
     |[]=>subst h;rfl
     |[_]=>obtain⟨_,_,_,_,_,_,_,_,_,rfl⟩:=h;rfl
     |[_,_]=>obtain⟨_,_,_,_,_,_,_,_,rfl⟩:=h;rfl
     |[_,_,_]=>obtain⟨_,_,_,_,_,_,_,_,_,rfl⟩:=h;rfl
     |[_,_,_,_]=>obtain⟨_,_,_,_,_,_,_,_,_,_,rfl⟩:=h;rfl
     |[_,_,_,_,_]=>obtain⟨_,_,_,_,_,_,_,_,rfl⟩:=h;rfl
     |[_,_,_,_,_,_]=>obtain⟨_,_,_,_,_,_,_,_,_,rfl⟩:=h;rfl
     |[_,_,_,_,_,_,_]=>obtain⟨_,_,_,_,_,_,_,_,_,rfl⟩:=h;rfl
     |_::_::_::_::_::_::_::_::_=>exact h.elim
    ·intro vs σ h i v hi hD
     match i with
     |5=>cases hD
     |13=>cases hD
     |8=>cases hi;exact⟨_,rfl,HStep.auto tabOk rfl⟩
     |16=>cases hi;exact⟨_,rfl,HStep.auto tabOk rfl⟩
     |0|1|2|3|4|6|7|9|10|11|12|14|15=>cases hi
     |i+17=>cases hi
    ·intro vs σ h p hp hle
     simp only[List.mem_cons,List.not_mem_nil,or_false]at hp
     rcases hp with rfl|rfl
     ·match vs,hle with
      |[],_=>subst h;exact⟨_,_,rfl,rfl,rfl,HStep.auto tabOk rfl⟩
     ·match vs,hle with
      |[],_=>subst h;exact⟨_,_,rfl,rfl,rfl,HStep.auto tabOk rfl⟩
      |[_],_=>obtain⟨_,_,_,_,_,_,_,_,_,rfl⟩:=h;exact⟨_,_,rfl,rfl,rfl,HStep.auto tabOk rfl⟩
    ·intro vs σ h i o hi ho
     match vs with
     | [] =>
      subst h;cases hi;cases ho
      refine⟨rfl,.inl (.inr ⟨rfl,Q0y.call hΓ rfl rfl rfl rfl ⟨hcai,trivial,⟨⟨trivial,trivial⟩,trivial⟩,trivial⟩ hou2 (insN hΓ [int n] rfl ⟨trivial,trivial⟩ (cI1 ls) hli (by simpa using hl) (by simpa using hat) hA2) fun r ou3 hq hr ho=>?_⟩)⟩
      obtain⟨k3,cap3,g1,rfl,g2,g3,g4⟩:=hq
      rw[←hL]at g1 g2
      replace g3:ownA k3∨ou2 k3=none:=g3
      have hn3:ou k3=none:=by
       rcases g3 with g3|g3
       ·exact hA2.own k3 g3
       ·cases h:ou k3 with
        |none=>rfl
        |some o=>rw[hold k3 o h]at g3;cases g3
      have hb3:¬ownB k3:=fun hb=>by
       rcases g3 with g3|g3
       ·exact hAB k3 g3 hb
       ·exact hB2.some k3 hb g3
      exact⟨k3,cap3,ou3,by rw[←hL],⟨hn3,g1,g2⟩,hB2.frame fun m hm=>g4 m (fun ha=>hAB m ha hm) (by rintro rfl;exact hb3 hm),hb3,fun m o hm=>by rw[g4 m (fun ha=>by rw[hA2.own m ha]at hm;cases hm) (by rintro rfl;rw[hn3]at hm;cases hm)];exact hold m o hm,ho,rfl⟩
     | [_] =>
      obtain⟨k3,cap3,ou3,rfl,h3,hB3,hb3,hold3,hok3,rfl⟩:=h;cases hi;cases ho
      refine⟨rfl,.inl (.inr ⟨rfl,Q0y.call hΓ rfl rfl rfl rfl ⟨hcbi,trivial,⟨⟨hc,trivial⟩,trivial⟩,trivial⟩ hok3 (insW hΓ [c] rfl ⟨hc,trivial⟩ h1 hids (by omega) (by omega) hB3) fun r ou4 hq hr ho=>?_⟩)⟩
      obtain⟨k4,cap4,g1,rfl,g2,g3,g4⟩:=hq
      rw[←hD]at g1 g2
      replace g3:ownB k4∨ou3 k4=none:=g3
      have hn4:ou k4=none:=by
       rcases g3 with g3|g3
       ·exact hB3.own k4 g3
       ·cases h:ou k4 with
        |none=>rfl
        |some o=>rw[hold3 k4 o h]at g3;cases g3
      have h34:k3≠k4:=by
       rintro rfl
       rcases g3 with g3|g3
       ·exact hb3 g3
       ·rw[h3.o]at g3;cases g3
      exact⟨k3,cap3,k4,cap4,ou4,rfl,by rw[←hD],⟨⟨h3.n,h3.c,(g4 k3 hb3 h34).trans h3.o⟩,⟨hn4,g1,g2⟩,h34,fun m o hm=>by rw[g4 m (fun ha=>by rw[hB3.own m ha]at hm;cases hm) (by rintro rfl;rw[hn4]at hm;cases hm)];exact hold3 m o hm,ho⟩,rfl⟩
     |[_,_]=>obtain⟨k3,cap3,k4,cap4,ou4,rfl,rfl,hF,rfl⟩:=h;cases hi;cases ho;exact⟨rfl,.inl (.inl ⟨_,_,AStep.ofOp tabOk rfl,k3,cap3,k4,cap4,ou4,rfl,rfl,hF,rfl,rfl⟩)⟩
     |[_,_,_]=>obtain⟨k3,cap3,k4,cap4,ou4,rfl,rfl,hF,rfl,rfl⟩:=h;cases hi;cases ho;exact⟨rfl,.inl (.inl ⟨_,_,AStep.ofOp tabOk rfl,k3,cap3,k4,cap4,ou4,rfl,rfl,hF,rfl,rfl,rfl⟩)⟩
     |[_,_,_,_]=>obtain⟨k3,cap3,k4,cap4,ou4,rfl,rfl,hF,rfl,rfl,rfl⟩:=h;cases hi;cases ho;exact⟨rfl,.inl (.inl ⟨.bot,_,AStep.ofStore tabOk rfl,k3,cap3,k4,cap4,ou4,rfl,rfl,hF,rfl⟩)⟩
     |[_,_,_,_,_]=>obtain⟨k3,cap3,k4,cap4,ou4,rfl,rfl,hF,rfl⟩:=h;cases hi;cases ho;exact⟨rfl,.inl (.inl ⟨_,_,AStep.ofOp tabOk rfl,k3,cap3,k4,cap4,ou4,rfl,rfl,hF,rfl,rfl⟩)⟩
     |[_,_,_,_,_,_]=>obtain⟨k3,cap3,k4,cap4,ou4,rfl,rfl,hF,rfl,rfl⟩:=h;cases hi;cases ho;exact⟨rfl,.inl (.inl ⟨_,_,AStep.ofOp tabOk rfl,k3,cap3,k4,cap4,ou4,rfl,rfl,hF,rfl,rfl⟩)⟩
     |_::_::_::_::_::_::_::_=>cases hi
    ·intro vs σ hl3 h
     match vs with
     |[_,_,_,_,_,_,_]=>
      obtain⟨k3,cap3,k4,cap4,ou4,rfl,rfl,hF,rfl,rfl⟩:=h
      refine AOps.storeOwn tabOk rfl rfl rfl rfl rfl rfl rfl (cs:=[.arr (.o k3) 1 0 L.length cap3,cb]) rfl (by simp) ?_
      refine AOps.freezeArrO (.o k3) (.l 0) 0 (s:=1) (cap:=cap3) (es:=L) (cs:=[.arr (.o k3) 1 0 L.length cap3,.arr (.o k4) 1 0 D.length cap4]) (by show ou4 k3=_;exact hF.a.o) hL1 rfl rfl ?_
      refine AOps.stEq (σ':=⟨1,[(0,.cells [.sl 1 L,.arr (.o k4) 1 0 D.length cap4]),(0,.cells [.arr (.o k3) 1 0 L.length cap3,.arr (.o k4) 1 0 D.length cap4]),(0,.cells [.arr (.o k3) 1 0 L.length cap3,cb]),(0,.cells [ca,cb])],updO ou4 k3 .dead⟩) (by rw[Q1n];rfl) ?_
      refine AOps.freezeArrO (.o k4) (.l 0) 1 (s:=1) (cap:=cap4) (es:=D) (cs:=[.sl 1 L,.arr (.o k4) 1 0 D.length cap4]) (by show updO _ _ _ _=_;rw[Q06 _ hF.ne];exact hF.b.o) hC1 rfl rfl ?_
      refine AOps.stEq (σ':=⟨1,[(0,.cells [.sl 1 L,.sl 1 D]),(0,.cells [.sl 1 L,.arr (.o k4) 1 0 D.length cap4]),(0,.cells [.arr (.o k3) 1 0 L.length cap3,.arr (.o k4) 1 0 D.length cap4]),(0,.cells [.arr (.o k3) 1 0 L.length cap3,cb]),(0,.cells [ca,cb])],updO (updO ou4 k3 .dead) k4 .dead⟩) (by rw[Q1n];rfl) ?_
      refine AOps.freeze1 (.l 0) 9 rfl rfl ?_
      refine zA ?_
      refine AFn.fin' rfl (WkF.refl _) ⟨hLid,hCid,trivial⟩ (Q0o (Q0o hF.ok trivial) trivial) ⟨?_,fun m o hm=>?_⟩
      ·simp only[rwL,rwC,hbf,Bool.false_eq_true,if_false]
       rw[←Q7g,←hL,←hD]
      have e1:k3≠m:=by rintro rfl;rw[hF.a.n]at hm;cases hm
      have e2:k4≠m:=by rintro rfl;rw[hF.b.n]at hm;cases hm
      show updO _ _ _ _=_
      rw[Q06 _ e2,Q06 _ e1];exact hF.old m o hm
     |[]|[_]|[_,_]|[_,_,_]|[_,_,_,_]|[_,_,_,_,_]|[_,_,_,_,_,_]=>cases hl3
     |_::_::_::_::_::_::_::_::_=>exact h.elim
  |[]|[_]|[_,_]|[_,_,_]=>cases hl2
  |_::_::_::_::_::_=>exact h.elim
section
variable {fu:Int}{fc:FcT}{ou:Outer}{H:Hm}{nm:Nm2}{m:Ms}{tc ec vc kc:AC}
theorem VsR.setL:∀{l:List Vl}{cs:List (List AC)}{i:Nat}{v:Vl}{c:AC},VsR H nm l cs->VR H nm v c->VsR H nm (l.set i v) (cs.set i [c])
 |_,_,_,_,_,.nil,_=>.nil
 |_,_,0,v,c,.cons _ _ vs cs hv h,hx=>.cons v c vs cs hx h
 |_,_,i+1,v,c,.cons w d vs cs hv h,hx=>.cons w d _ _ hv (VsR.setL h hx)
theorem VsR.take:∀{l:List Vl}{cs:List (List AC)}(n:Nat),VsR H nm l cs->VsR H nm (l.take n) (cs.take n)
 |_,_,0,h=>by simp only[List.take_zero];exact .nil
 |_,_,n+1,.nil=>.nil
 |_,_,n+1,.cons v c vs cs hv h=>.cons v c _ _ hv (VsR.take n h)
theorem VsR.app:∀{l l':List Vl}{cs cs':List (List AC)},VsR H nm l cs->VsR H nm l' cs'->VsR H nm (l++l') (cs++cs')
 |_,_,_,_,.nil,h'=>h'
 |_,_,_,_,.cons v c vs cs hv h,h'=>.cons v c _ _ hv (VsR.app h h')
theorem Qj8{ls:List Int}{fs:List Vl}{cs:List (List AC)}{n:Int}{v:Vl}{c:AC}(hf:VsR H nm fs cs)(hv:VR H nm v c):VR H nm (withR ls fs n v) (iB tRow [.sl 1 ((rwL ls n).map cI),.sl 1 (rwC ls n cs c)]):=by
 unfold withR rwL rwC
 split
 ·exact .row _ _ _ (hf.setL hv)
 ·have:putAt ls (bsAt ls n) n=ls.take (bsAt ls n)++n::ls.drop (bsAt ls n):=by simp[putAt]
  rw[this]
  refine .row _ _ _ ?_
  have:putAt cs (bsAt ls n) [c]=cs.take (bsAt ls n)++[c]::cs.drop (bsAt ls n):=by simp[putAt]
  rw[this]
  exact (hf.take _).app (.cons v c _ _ hv (hf.drop _))
theorem Qh4(a b:Vl):primM fu m 8 [a,b]=(match wordV a with|.error e=>.error e|.ok x=>Q39 fu m x b):=by
 simp only[primM,List.getD_cons_zero,bind,Except.bind,if_neg (show ¬(8:Int)=0 by decide),if_neg (show ¬(8:Int)=1 by decide),if_neg (show ¬(8:Int)=2 by decide),if_neg (show ¬(8:Int)=3 by decide),if_neg (show ¬(8:Int)=4 by decide),if_neg (show ¬(8:Int)=5 by decide),if_neg (show ¬(8:Int)=6 by decide),if_neg (show ¬(8:Int)=7 by decide),if_true]
 cases wordV a <;> rfl
theorem Qjx(hΓ:∀g cs,(g,cs)∈Γ->idsL isO cs)(h0:M0 fu fc ou H nm m tc ec vc kc)(hfc:fc.ids isO)(hst:0<=m.steps/\m.steps<=1000000)(hfu:0<=fu/\fu<=1000000){a b:Vl}{ca cb:AC}(ha:VR H nm a ca)(hb:VR H nm b cb):
  AFnP Tryz.prog Γ 179 [.one (.ptr (.o 0) 0),.one (int 8),.one (.sl 1 [[ca],[cb]])] ou (PlE fu fc H nm (primM fu m 8 [a,b]) tc ec vc kc) (PlP m (primM fu m 8 [a,b])):=by
 have hai:=ha.ids
 have hbi:=hb.ids
 have hpr:=h0.pr
 rw[Qh4]
 refine AFnP.walk 152 tabOk hΓ Tryz.func179 rfl (by kernel_rfl) rfl rfl fun hou=>?_
 refine zA ?_
 rcases ha.isWord with ⟨x,rfl,rfl⟩|⟨hvn,hno⟩
 ·refine ACode.drawC2 tabOk 9 [8] [(2,.one (.box [iW x])),(4,.one (int x)),(6,.one (.box [cb]))] (fun vs σ=>match vs with
   |[]=>σ=⟨0,[],ou⟩
   |[r]=>∃ou',PlE fu fc H nm (Q39 fu m x b) tc ec vc kc r ou'/\OuOk ou'/\r.ids isO/\σ=⟨0,[],ou'⟩
   |_=>False) follows (by kernel_rfl) rfl rfl (by decide) (by kernel_rfl) (by kernel_rfl) rfl rfl ?_ ?_ (by decide) ?_ ?_
  ·intro vs σ h
   match vs with
   |[]=>subst h;rfl
   |[_]=>obtain⟨_,_,_,_,rfl⟩:=h;rfl
   |_::_::_=>exact h.elim
  ·intro vs σ h
   have ho2:OuOk σ.ou:=by
    match vs with
    |[]=>subst h;exact hou
    |[_]=>obtain⟨_,_,h2,_,rfl⟩:=h;exact h2
    |_::_::_=>exact h.elim
   exact⟨⟨_,rfl,zIA rfl rfl rfl (by decide) rfl⟩,⟨_,rfl,AStep.callPure hΓ rfl rfl rfl (by simp[idsF,iW]) ho2 (Q0g x)⟩,⟨_,rfl,zIA rfl rfl rfl (by decide) rfl⟩,trivial⟩
  ·intro vs σ h i o hi ho
   match vs with
   |[]=>
    subst h;cases hi;cases ho
    exact⟨rfl,.inr ⟨rfl,Q0x.callP hΓ (Qfl hΓ h0 hfc hst hfu x hb) rfl rfl rfl rfl ⟨trivial,trivial,hbi,trivial⟩ hou (fun r ou' hq hr ho=>⟨ou',hq,ho,hr,rfl⟩) fun ps ou' h ho=>⟨ho,h⟩⟩⟩
   |_::_=>cases hi
  ·intro vs σ hl h
   match vs with
   |[r]=>
    obtain⟨ou',hq,how,hri,rfl⟩:=h
    obtain⟨m1,v1,hx,kt,H1,nm1,c,rfl,hq⟩:=hq
    refine zA ?_
    exact AFn.fin' rfl (WkF.refl _) hri how ⟨m1,v1,hx,kt,H1,nm1,c,rfl,hq⟩
   |[]=>cases hl
   |_::_::_=>exact h.elim
 ·refine ACode.drawPan tabOk 9 4 [8] [(2,.one (.box [ca])),(6,.one (.box [cb]))] follows (by kernel_rfl) rfl rfl (by kernel_rfl) (by kernel_rfl) rfl ?_ rfl rfl rfl (by kernel_rfl) rfl ?_
  ·exact⟨⟨_,rfl,zIA rfl rfl rfl (by decide) rfl⟩,⟨_,rfl,zIA rfl rfl rfl (by decide) rfl⟩,trivial⟩
  ·exact Q16 hΓ hno hai rfl rfl rfl hou fun ps hps=>⟨hou,5,by rw[Q4r hvn],hps,hpr⟩
theorem Qh5{n:Int}(hn:n=9∨n=10∨n=11)(l:List Vl):primM fu m n l=Q2i m n l:=by
 unfold primM
 rw[if_neg (by omega),if_neg (by omega),if_neg (by omega),if_neg (by omega),if_neg (by omega),if_neg (by omega),if_neg (by omega),if_neg (by omega),if_neg (by omega)]
theorem Qk0(hΓ:∀g cs,(g,cs)∈Γ->idsL isO cs)(h0:M0 fu fc ou H nm m tc ec vc kc){n:Int}(hn:n=9∨n=10∨n=11){l:List Vl}{dc:List (List AC)}(hd:VsR H nm l dc)(hl:(l.length:Int)=Q2r.getD n.toNat 0)(hwd:∀v∈l,wdV v):
  AFnP Tryz.prog Γ 179 [.one (.ptr (.o 0) 0),.one (int n),.one (.sl 1 dc)] ou (PlE fu fc H nm (primM fu m n l) tc ec vc kc) (PlP m (primM fu m n l)):=by
 have hdi:=hd.ids
 rw[Qh5 hn]
 have hA:=Qd4 hΓ h0 hn hd hl hwd
 refine AFnP.walk 152 tabOk hΓ Tryz.func179 rfl (by kernel_rfl) rfl rfl fun hou=>?_
 have key:∀r ou',PlE fu fc H nm (Q2i m n l) tc ec vc kc r ou'->r.ids isO->OuOk ou'->∃c,r=.one c:=fun r ou' ⟨m1,v1,_,kt,H1,nm1,c,h,_⟩ _ _=>⟨c,h⟩
 rcases hn with rfl|rfl|rfl
 ·refine zA ?_
  refine AOps.callP hΓ hA rfl rfl rfl rfl rfl rfl hou ⟨trivial,hdi,trivial⟩ (fun ps ou' h ho=>⟨ho,h⟩) fun r ou' hq hri how=>?_
  obtain⟨c,rfl⟩:=key r ou' hq hri how
  refine zA ?_
  exact AFn.fin' rfl (WkF.refl _) hri how hq
 ·refine zA ?_
  refine AOps.callP hΓ hA rfl rfl rfl rfl rfl rfl hou ⟨trivial,hdi,trivial⟩ (fun ps ou' h ho=>⟨ho,h⟩) fun r ou' hq hri how=>?_
  obtain⟨c,rfl⟩:=key r ou' hq hri how
  refine zA ?_
  exact AFn.fin' rfl (WkF.refl _) hri how hq
 ·refine zA ?_
  refine AOps.callP hΓ hA rfl rfl rfl rfl rfl rfl hou ⟨trivial,hdi,trivial⟩ (fun ps ou' h ho=>⟨ho,h⟩) fun r ou' hq hri how=>?_
  obtain⟨c,rfl⟩:=key r ou' hq hri how
  refine zA ?_
  exact AFn.fin' rfl (WkF.refl _) hri how hq
theorem Qh3(hΓ:∀g cs,(g,cs)∈Γ->idsL isO cs)(h0:M0 fu fc ou H nm m tc ec vc kc)(hfc:fc.ids isO)(hst:0<=m.steps/\m.steps<=1000000)(hfu:0<=fu/\fu<=1000000)(hol:m.out.length<=1000){n:Int}(hn:0<=n/\n<=11){l:List Vl}{dc:List (List AC)}(hd:VsR H nm l dc)(hl:(l.length:Int)=Q2r.getD n.toNat 0)(hwd:∀v∈l,wdV v):
  AFnP Tryz.prog Γ 179 [.one (.ptr (.o 0) 0),.one (int n),.one (.sl 1 dc)] ou (PlE fu fc H nm (primM fu m n l) tc ec vc kc) (PlP m (primM fu m n l)):=by
 have h3:n=0∨n=1∨n=2∨n=3∨n=4∨n=5∨n=6∨n=7∨n=8∨n=9∨n=10∨n=11:=by omega
 have two:(l.length:Int)=2->∃a b ca cb,l=[a,b]/\dc=[[ca],[cb]]/\VR H nm a ca/\VR H nm b cb:=fun h=>by
  obtain⟨a,b,rfl⟩:=list2 (l:=l) (by omega)
  obtain⟨ca,d1,rfl,ha,hd1⟩:=hd.consE
  obtain⟨cb,d2,rfl,hb,hd2⟩:=hd1.consE
  have hz:=hd2.nilE
  subst hz
  exact⟨a,b,ca,cb,rfl,rfl,ha,hb⟩
 by_cases h6:n<=6
 ·have h7:n=0∨n=1∨n=2∨n=3∨n=4∨n=5∨n=6:=by omega
  obtain⟨a,b,ca,cb,rfl,rfl,ha,hb⟩:=two (by rw[hl];rcases h7 with rfl|rfl|rfl|rfl|rfl|rfl|rfl <;> rfl)
  exact Qjz hΓ h0 h7 ha hb (hwd a (by simp)) (hwd b (by simp))
 by_cases h7:n=7
 ·subst h7
  obtain⟨a,rfl⟩:=list1 (l:=l) (by have:(l.length:Int)=1:=hl;omega)
  obtain⟨ca,d1,rfl,ha,hd1⟩:=hd.consE
  have hz:=hd1.nilE
  subst hz
  exact prim_pr hΓ h0 hfc ha hol
 by_cases h8:n=8
 ·subst h8
  obtain⟨a,b,ca,cb,rfl,rfl,ha,hb⟩:=two hl
  exact Qjx hΓ h0 hfc hst hfu ha hb
 ·exact Qk0 hΓ h0 (by omega) hd hl hwd
def rowV (v:Vl):Prop:=∀ls fs,v=.row ls fs->ls.length=fs.length/\ls.length<=1048576
theorem Qh7(hΓ:∀g cs,(g,cs)∈Γ->idsL isO cs)(h0:M0 fu fc ou H nm m tc ec vc kc){t:Tr}{d:List Vl}{dc:List (List AC)}(hd:VsR H nm d dc)(h9:t.op=9):
  AFn Tryz.prog Γ 160 [.one (.ptr (.o 0) 0),.one (.box (cTr t)),.one (.sl 1 dc)] ou (PlQ fu fc H nm m (.row t.binds d) tc ec vc kc):=by
 have hdi:=hd.ids
 refine AFn.walk 85 tabOk Tryz.func160 rfl (by kernel_rfl) rfl rfl fun hou=>?_
 cases t with
 |mk to tn tb tk ta=>
 obtain rfl:to=9:=h9
 repeat ((fail_if_success ((with_reducible refine oj ?_);refine AOps.atDst 42 rfl ?_));first|refine zO ?_)
 refine AOps.freeze1 (.l 0) 41 rfl rfl ?_
 refine zS (AStep.mkIfc Qag rfl rfl) ?_
 refine zA ?_
 exact AFn.fin' rfl (WkF.ofEq rfl) ⟨⟨by simp,hdi,trivial⟩,trivial⟩ hou ⟨fc.kt,H,nm,iB tRow [.sl 1 (tb.map cI),.sl 1 dc],rfl,.refl _ _,.row tb d dc hd,h0⟩
theorem Qfb{t:Tr}(h:t.op=10)(v:Vl):Q0r fu m t [v]=(match rowsV v with|.error e=>.error e|.ok (ls,fs)=>if bsIs ls t.n then .ok (m,fs.getD (bsAt ls t.n) .nil)else .error 3):=by
 unfold Q0r
 rw[if_neg (by omega),if_neg (by omega),if_neg (by omega),if_pos h]
 cases v <;> rfl
theorem Qdt{v:Vl}(h:∀ls fs,v≠.row ls fs):rowsV v=.error 5:=by cases v <;> first|rfl|exact absurd rfl (h _ _)
theorem Qha(hΓ:∀g cs,(g,cs)∈Γ->idsL isO cs)(h0:M0 fu fc ou H nm m tc ec vc kc){t:Tr}{v:Vl}{c:AC}(hv:VR H nm v c)(h10:t.op=10)(hr:rowV v):
  AFnP Tryz.prog Γ 160 [.one (.ptr (.o 0) 0),.one (.box (cTr t)),.one (.sl 1 [[c]])] ou (PlE fu fc H nm (Q0r fu m t [v]) tc ec vc kc) (PlP m (Q0r fu m t [v])):=by
 have hvi:=hv.ids
 have hpr:=h0.pr
 rw[Qfb h10]
 refine AFnP.walk 85 tabOk hΓ Tryz.func160 rfl (by kernel_rfl) rfl rfl fun hou=>?_
 cases t with
 |mk to tn tb tk ta=>
 obtain rfl:to=10:=h10
 refine zA ?_
 refine zS (zIA rfl rfl rfl (by decide) rfl) ?_
 refine zA ?_
 rcases hv.isRow with ⟨ls,fs,cs,rfl,rfl,hfs⟩|⟨hvn,hno⟩
 ·obtain⟨hlf,hl20⟩:=hr ls fs rfl
  have hci:=hfs.ids
  have hcl:=hfs.len
  refine AOps.callC hΓ (Qds (.sl 1 (ls.map cI)) (.sl 1 cs) (by simp) hci) rfl rfl rfl rfl rfl rfl rfl hou ⟨⟨⟨by simp,hci,trivial⟩,trivial⟩,trivial⟩ ?_
  refine zA ?_
  refine ACode.drawX tabOk 13 [(8,.tup [.one (int (bsAt ls tn:Nat)),.one (.lit (.bool (bsIs ls tn)))])] follows (by kernel_rfl) rfl rfl rfl rfl ?_ ?_
  ·exact⟨⟨_,rfl,AStep.callPure hΓ rfl rfl rfl (by simp[idsF]) hou (Q4p hΓ ls hl20 tn)⟩,trivial⟩
  by_cases hbs:bsIs ls tn=true
  ·have hlt:bsAt ls tn < ls.length:=by simp[bsIs]at hbs;exact hbs.1
   obtain⟨w,hw⟩:=Q01 (l:=fs) (i:=bsAt ls tn) (by omega)
   obtain⟨y,hy,hvy⟩:=hfs.get hw
   have hyi:=hvy.ids
   refine zA ?_
   refine ACode.wk 62 rfl (y:=.one (.lit (.bool false))) (.ofEq (by rw[hbs];rfl)) ?_
   refine zA ?_
   refine zS (zIA rfl rfl rfl (by omega) (show cs[bsAt ls tn]?=some [y]from hy)) ?_
   refine zA ?_
   exact AFn.fin' rfl (WkF.refl _) hyi hou ⟨m,w,by simp only[rowsV,Tr.n,hbs,if_true];rw[List.getD_eq_getElem?_getD,hw];rfl,fc.kt,H,nm,y,rfl,.refl _ _,hvy,h0⟩
  ·have hbf:bsIs ls tn=false:=by simpa using hbs
   refine zA ?_
   refine ACode.wk 62 rfl (y:=.one (.lit (.bool true))) (.ofEq (by rw[hbf];rfl)) ?_
   refine zA ?_
   refine zS (AStep.mkIfcA Q0p rfl rfl) ?_
   exact AOps.panicI rfl rfl rfl fun w C u hu=>⟨hou,3,by simp[rowsV,Tr.n,hbf],Q0t hu,hpr⟩
 ·refine AOps.callP hΓ (Qgs hΓ hno _) rfl rfl rfl rfl rfl rfl hou ⟨hvi,trivial⟩ (fun ps ou' h ho=>?_) (fun r ou' h _ _=>h.elim)
  obtain⟨rfl,rfl⟩:=h
  exact⟨ho,5,by rw[Qdt hvn],rfl,hpr⟩
theorem Qfa{t:Tr}(h:t.op=11)(v w:Vl):Q0r fu m t [v,w]=(match rowsV v with|.error e=>.error e|.ok (ls,fs)=>.ok (m,withR ls fs t.n w)):=by
 unfold Q0r
 rw[if_neg (by omega),if_neg (by omega),if_neg (by omega),if_neg (by omega)]
 cases v <;> rfl
theorem Qh6(hΓ:∀g cs,(g,cs)∈Γ->idsL isO cs)(h0:M0 fu fc ou H nm m tc ec vc kc){t:Tr}{v w:Vl}{c d:AC}(hv:VR H nm v c)(hw:VR H nm w d)(h11:t.op=11)(hr:rowV v):
  AFnP Tryz.prog Γ 160 [.one (.ptr (.o 0) 0),.one (.box (cTr t)),.one (.sl 1 [[c],[d]])] ou (PlE fu fc H nm (Q0r fu m t [v,w]) tc ec vc kc) (PlP m (Q0r fu m t [v,w])):=by
 have hvi:=hv.ids
 have hwi:=hw.ids
 have hpr:=h0.pr
 rw[Qfa h11]
 refine AFnP.walk 85 tabOk hΓ Tryz.func160 rfl (by kernel_rfl) rfl rfl fun hou=>?_
 cases t with
 |mk to tn tb tk ta=>
 obtain rfl:to=11:=h11
 refine zA ?_
 rcases hv.isRow with ⟨ls,fs,cs,rfl,rfl,hfs⟩|⟨hvn,hno⟩
 ·obtain⟨hlf,hl20⟩:=hr ls fs rfl
  have hci:=hfs.ids
  have hcl:=hfs.len
  have hres:VR H nm (withR ls fs tn w) (iB tRow [.sl 1 ((rwL ls tn).map cI),.sl 1 (rwC ls tn cs d)]):=Qj8 hfs hw
  have hri:=hres.ids
  refine ACode.drawX tabOk 13 [(1,.one (.box [iB tRow [.sl 1 (ls.map cI),.sl 1 cs]])),(3,.one (.box [.sl 1 (ls.map cI),.sl 1 cs])),(9,.one (.box [d])),(11,.one (.box [.sl 1 ((rwL ls tn).map cI),.sl 1 (rwC ls tn cs d)])),(12,.one (iB tRow [.sl 1 ((rwL ls tn).map cI),.sl 1 (rwC ls tn cs d)]))] follows (by kernel_rfl) rfl rfl rfl rfl ?_ ?_
  ·refine⟨⟨_,rfl,zIA rfl rfl rfl (by decide) rfl⟩,⟨_,rfl,AStep.callPure hΓ rfl rfl rfl ⟨⟨⟨by simp,hci,trivial⟩,trivial⟩,trivial⟩ hou (Qds (.sl 1 (ls.map cI)) (.sl 1 cs) (by simp) hci)⟩,⟨_,rfl,zIA rfl rfl rfl (by decide) rfl⟩,⟨_,rfl,AStep.callPure hΓ rfl rfl rfl ⟨⟨by simp,hci,trivial⟩,trivial,hwi,trivial⟩ hou (Qjl hΓ (by omega) hfs.ones hci hl20 tn d hwi)⟩,⟨_,rfl,AStep.mkIfc Qag rfl rfl⟩,trivial⟩
  refine zA ?_
  exact AFn.fin' rfl (WkF.refl _) hri hou ⟨m,withR ls fs tn w,rfl,fc.kt,H,nm,_,rfl,.refl _ _,hres,h0⟩
 ·refine ACode.drawPan tabOk 13 3 [11,12] [(1,.one (.box [c])),(9,.one (.box [d]))] follows (by kernel_rfl) rfl rfl (by kernel_rfl) (by kernel_rfl) rfl ?_ rfl rfl rfl (by kernel_rfl) rfl ?_
  ·exact⟨⟨_,rfl,zIA rfl rfl rfl (by decide) rfl⟩,⟨_,rfl,zIA rfl rfl rfl (by decide) rfl⟩,trivial⟩
  ·refine Q0x.callP hΓ (Qgs hΓ hno _) rfl rfl rfl rfl ⟨hvi,trivial⟩ hou (fun r ou' h=>h.elim) fun ps ou' h ho2=>?_
   obtain⟨rfl,rfl⟩:=h
   exact⟨ho2,5,by rw[Qdt hvn],rfl,hpr⟩
theorem Qch(hΓ:∀g cs,(g,cs)∈Γ->idsL isO cs){t:Tr}{d:List Vl}{dc:List (List AC)}(hd:VsR H nm d dc)(h8:t.op=8){x:Except Int (Ms×Vl)}(hp:AFnP Tryz.prog Γ 179 [.one (.ptr (.o 0) 0),.one (int t.n),.one (.sl 1 dc)] ou (PlE fu fc H nm x tc ec vc kc) (PlP m x)):
  AFnP Tryz.prog Γ 160 [.one (.ptr (.o 0) 0),.one (.box (cTr t)),.one (.sl 1 dc)] ou (PlE fu fc H nm x tc ec vc kc) (PlP m x):=by
 have hdi:=hd.ids
 refine AFnP.walk 85 tabOk hΓ Tryz.func160 rfl (by kernel_rfl) rfl rfl fun hou=>?_
 cases t with
 |mk to tn tb tk ta=>
 obtain rfl:to=8:=h8
 refine zA ?_
 refine AOps.callP hΓ hp rfl rfl rfl rfl rfl rfl hou ⟨trivial,trivial,hdi,trivial⟩ (fun ps ou' h ho=>⟨ho,h⟩) fun r ou' hq hids how=>?_
 obtain⟨m1,v1,hx,kt,H1,nm1,c,rfl,hq⟩:=hq
 refine zA ?_
 exact AFn.fin' rfl (WkF.refl _) hids how ⟨m1,v1,hx,kt,H1,nm1,c,rfl,hq⟩
theorem Qf9(hΓ:∀g cs,(g,cs)∈Γ->idsL isO cs)(h0:M0 fu fc ou H nm m tc ec vc kc)(hfc:fc.ids isO)(hst:0<=m.steps/\m.steps<=1000000)(hfu:0<=fu/\fu<=1000000)(hol:m.out.length<=1000){t:Tr}{d:List Vl}{dc:List (List AC)}(hd:VsR H nm d dc)
  (ho:t.op=6∨t.op=8∨t.op=9∨t.op=10∨t.op=11) (hsh:ShN t.op t.n t.binds t.kids.length t.alts) (hl:d.length=t.kids.length) (hwd:∀v∈d,wdV v/\rowV v):
  AFnP Tryz.prog Γ 160 [.one (.ptr (.o 0) 0),.one (.box (cTr t)),.one (.sl 1 dc)] ou (PlE fu fc H nm (Q0r fu m t d) tc ec vc kc) (PlP m (Q0r fu m t d)):=by
 rcases ho with h|h|h|h|h
 ·refine AFn.toP ((Qb4 hΓ h0 hd h).mono fun r ou' hq=>⟨_,_,?_,hq⟩)
  unfold Q0r;rw[if_pos h]
 ·have hpn:=by rw[h]at hsh;exact hsh.prim
  have e:Q0r fu m t d=primM fu m t.n d:=by unfold Q0r;rw[if_neg (by omega),if_pos h]
  rw[e]
  exact Qch hΓ hd h (Qh3 hΓ h0 hfc hst hfu hol ⟨hpn.1,hpn.2.1⟩ hd (by rw[hl];exact hpn.2.2.1) fun v hv=>(hwd v hv).1)
 ·refine AFn.toP ((Qh7 hΓ h0 hd h).mono fun r ou' hq=>⟨_,_,?_,hq⟩)
  unfold Q0r;rw[if_neg (by omega),if_neg (by omega),if_pos h]
 ·obtain⟨v,rfl⟩:=list1 (l:=d) (by rw[hl,(hsh.one (.inl h)).1])
  obtain⟨c,d1,rfl,hv,hd1⟩:=hd.consE
  have hz:=hd1.nilE
  subst hz
  exact Qha hΓ h0 hv h (hwd v (by simp)).2
 ·obtain⟨v,w,rfl⟩:=list2 (l:=d) (by rw[h]at hsh;rw[hl,hsh.two.1])
  obtain⟨c,d1,rfl,hv,hd1⟩:=hd.consE
  obtain⟨c2,d2,rfl,hw,hd2⟩:=hd1.consE
  have hz:=hd2.nilE
  subst hz
  exact Qh6 hΓ h0 hv hw h (hwd v (by simp)).2
end
section
variable {fu:Int}{fc:FcT}{fns:List Fun}{ou:Outer}{H:Hm}{nm:Nm2}{m m1:Ms}{v:Vl}{tc ec vc kc:AC}{t:Tr}{e:En}{d:List Vl}{k:List Fm}{dc:List (List AC)}{tc0 ec0 vc0 kc0:AC}
theorem Qhu(hΓ:∀g cs,(g,cs)∈Γ->idsL isO cs)(h0:M0 fu fc ou H nm m tc0 ec0 vc0 kc0)(hfc:fc.ids isO)(he:ER H nm e ec)(hd:VsR H nm d dc)(hk:KR H nm k kc)(hl:d.length=1)(h7:t.op=7){x:Except Int Ms}
  (hch:∀ou',M0 fu fc ou' H nm m tc0 ec0 vc0 kc->AFnP Tryz.prog Γ 155 [.one (.ptr (.o 0) 0),.one (.box [.box (cTr t),ec,.sl 1 dc,kc])] ou' (StQ fu fc H nm x) (StP m x)):
  AFnP Tryz.prog Γ 118 [.one (.ptr (.o 0) 0),.one (.box [.box (cTr t),ec,.sl 1 dc,kc])] ou (StQ fu fc H nm x) (StP m x):=by
 have hN:=Q37 h0 hk hfc
 have hei:=he.ids
 have hdi:=hd.ids
 have hki:=hk.ids
 have hdl:=hd.len
 have hop:opdN t=1:=by unfold opdN;rw[if_pos (.inr (.inl h7))]
 have hoX:=h0.ouX
 rw[hoX]
 generalize hmc:ou=ou0 at hN
 clear hoX
 refine AFnP.walk 262 tabOk hΓ Tryz.func118 rfl (by kernel_rfl) rfl rfl fun hou=>?_
 refine zA ?_
 refine ACode.drawX tabOk 10 [(9,.one (int (opdN t)))] follows (by kernel_rfl) rfl rfl rfl rfl ?_ ?_
 ·exact⟨⟨_,rfl,AStep.callPure hΓ rfl rfl rfl (by simp[idsF]) hou (Q2d t)⟩,trivial⟩
 refine zA ?_
 refine ACode.cond rfl (fun hb=>absurd hb (by simp[hdl,hl,hop])) (fun hb=>?_)
 refine zA ?_
 refine ACode.stEq (σ':=⟨0,[],ouX (mC tc0 ec0 vc0 kc m.out m.steps fu fc) m.out.length ou0⟩) (setX _ _ _ _) ?_
 refine ACode.cond rfl (fun hb=>absurd hb (by simp[h7])) (fun _=>?_)
 refine zA ?_
 refine ACode.cond rfl (fun _=>?_) (fun hb=>absurd hb (by simp[h7]))
 refine zA ?_
 refine AOps.callP hΓ (hch _ hN) rfl rfl rfl rfl rfl rfl hN.w.ok ⟨trivial,⟨by simp,hei,hdi,hki,trivial⟩,trivial⟩ (fun ps ou' h ho=>⟨ho,h⟩) fun r ou' hq _ how=>?_
 obtain⟨rfl,H',nm',m',hx,hmo,hM⟩:=hq
 refine zA ?_
 exact StQ.fin rfl hx hmo hM
theorem Qkh(hΓ:∀g cs,(g,cs)∈Γ->idsL isO cs)(h0:M0 fu fc ou H nm m tc0 ec0 vc0 kc0)(hfc:fc.ids isO)(he:ER H nm e ec){v0:Vl}{c0:AC}{ds:List (List AC)}(hv0:VR H nm v0 c0)(hd:VsR H nm d ds)(hk:KR H nm k kc)(hl:d.length+1=t.kids.length)(h3:t.op=3){x:Except Int Ms}
  (hcl:∀ou',M0 fu fc ou' H nm m tc0 ec0 vc0 kc->AFnP Tryz.prog Γ 156 [.one (.ptr (.o 0) 0),.one c0,.one (.sl 1 ds)] ou' (StQ fu fc H nm x) (StP m x)):
  AFnP Tryz.prog Γ 118 [.one (.ptr (.o 0) 0),.one (.box [.box (cTr t),ec,.sl 1 ([c0]::ds),kc])] ou (StQ fu fc H nm x) (StP m x):=by
 have hN:=Q37 h0 hk hfc
 have hei:=he.ids
 have hdi:=hd.ids
 have hvi:=hv0.ids
 have hki:=hk.ids
 have hdl:=hd.len
 have hop:opdN t=t.kids.length:=by unfold opdN;rw[if_neg (by rw[h3];decide)]
 have hoX:=h0.ouX
 rw[hoX]
 generalize hmc:ou=ou0 at hN
 clear hoX
 refine AFnP.walk 262 tabOk hΓ Tryz.func118 rfl (by kernel_rfl) rfl rfl fun hou=>?_
 refine zA ?_
 refine ACode.drawX tabOk 10 [(9,.one (int (opdN t)))] follows (by kernel_rfl) rfl rfl rfl rfl ?_ ?_
 ·exact⟨⟨_,rfl,AStep.callPure hΓ rfl rfl rfl (by simp[idsF]) hou (Q2d t)⟩,trivial⟩
 refine zA ?_
 refine ACode.cond rfl (fun hb=>absurd hb (by simp[hdl,hop];omega)) (fun hb=>?_)
 refine zA ?_
 refine ACode.stEq (σ':=⟨0,[],ouX (mC tc0 ec0 vc0 kc m.out m.steps fu fc) m.out.length ou0⟩) (setX _ _ _ _) ?_
 refine ACode.cond rfl (fun hb=>absurd hb (by simp[h3])) (fun _=>?_)
 refine zA ?_
 refine ACode.cond rfl (fun hb=>absurd hb (by simp[h3])) (fun _=>?_)
 refine zA ?_
 refine ACode.cond rfl (fun _=>?_) (fun hb=>absurd hb (by simp[h3]))
 refine zA ?_
 refine ACode.drawX tabOk 12 [(5,.one (.box [c0])),(11,.one (.sl 1 ds))] follows (by kernel_rfl) rfl rfl rfl rfl ?_ ?_
 ·exact⟨⟨_,rfl,zIA rfl rfl rfl (by decide) rfl⟩,⟨_,rfl,AStep.sliceFrom (b:=1) (es:=[c0]::ds) tabOk rfl rfl rfl rfl rfl rfl rfl (by simp)⟩,trivial⟩
 refine zA ?_
 refine AOps.callP hΓ (hcl _ hN) rfl rfl rfl rfl rfl rfl hN.w.ok ⟨trivial,hvi,hdi,trivial⟩ (fun ps ou' h ho=>⟨ho,h⟩) fun r ou' hq _ how=>?_
 obtain⟨rfl,H',nm',m',hx,hmo,hM⟩:=hq
 refine zA ?_
 exact StQ.fin rfl hx hmo hM
theorem Qfj(hΓ:∀g cs,(g,cs)∈Γ->idsL isO cs)(h0:M0 fu fc ou H nm m tc0 ec0 vc0 kc0)(hfc:fc.ids isO)(he:ER H nm e ec)(hd:VsR H nm d dc)(hk:KR H nm k kc)(hl:d.length=opdN t)(hn:¬(t.op=4∨t.op=7∨t.op=3∨t.op=13∨t.op=12∨t.op=14∨t.op=15∨t.op=16))
  {x:Except Int (Ms×Vl)}
  (hpl:∀ou',M0 fu fc ou' H nm m tc0 ec0 vc0 kc->AFnP Tryz.prog Γ 160 [.one (.ptr (.o 0) 0),.one (.box (cTr t)),.one (.sl 1 dc)] ou' (PlE fu fc H nm x tc0 ec0 vc0 kc) (PlP m x)):
  AFnP Tryz.prog Γ 118 [.one (.ptr (.o 0) 0),.one (.box [.box (cTr t),ec,.sl 1 dc,kc])] ou (StQ fu fc H nm (x.map fun (m1,v)=>{ m1 with c:=.rt v,k:=k })) (StP m (x.map fun (m1,v)=>{ m1 with c:=.rt v,k:=k })):=by
 have hN:=Q37 h0 hk hfc
 simp only[not_or]at hn
 have hei:=he.ids
 have hdi:=hd.ids
 have hki:=hk.ids
 have hdl:=hd.len
 have hoX:=h0.ouX
 rw[hoX]
 generalize hmc:ou=ou0 at hN
 clear hoX
 refine AFnP.walk 262 tabOk hΓ Tryz.func118 rfl (by kernel_rfl) rfl rfl fun hou=>?_
 refine zA ?_
 refine ACode.drawX tabOk 10 [(9,.one (int (opdN t)))] follows (by kernel_rfl) rfl rfl rfl rfl ?_ ?_
 ·exact⟨⟨_,rfl,AStep.callPure hΓ rfl rfl rfl (by simp[idsF]) hou (Q2d t)⟩,trivial⟩
 refine zA ?_
 refine ACode.cond rfl (fun hb=>absurd hb (by simp[hdl,hl])) (fun hb=>?_)
 refine zA ?_
 refine ACode.stEq (σ':=⟨0,[],ouX (mC tc0 ec0 vc0 kc m.out m.steps fu fc) m.out.length ou0⟩) (setX _ _ _ _) ?_
 refine ACode.cond rfl (fun hb=>absurd hb (by simp[hn.1])) (fun _=>?_)
 refine zA ?_
 refine ACode.cond rfl (fun hb=>absurd hb (by simp[hn.2.1])) (fun _=>?_)
 refine zA ?_
 refine ACode.cond rfl (fun hb=>absurd hb (by simp[hn.2.2.1])) (fun _=>?_)
 refine zA ?_
 refine ACode.cond rfl (fun hb=>absurd hb (by simp[hn.2.2.2.1])) (fun _=>?_)
 refine zA ?_
 refine ACode.cond rfl (fun hb=>absurd hb (by simp[hn.2.2.2.2.1])) (fun _=>?_)
 refine zA ?_
 refine ACode.cond rfl (fun hb=>absurd hb (by simp[hn.2.2.2.2.2.1])) (fun _=>?_)
 refine zA ?_
 refine ACode.cond rfl (fun hb=>absurd hb (by simp[hn.2.2.2.2.2.2.1])) (fun _=>?_)
 refine zA ?_
 refine ACode.cond rfl (fun hb=>absurd hb (by simp[hn.2.2.2.2.2.2.2])) (fun _=>?_)
 refine zA ?_
 refine ACode.drawCS tabOk 15 11 12 13 14 (.one (.ptr (.o 0) 0)) (.one (.ptr (.o 0) 0)) []
  (fun r σ => ∃ m1 v kt H1 nm1 c ou1, x = .ok (m1, v) /\ r = .one c /\ σ = ⟨0, [], ouX (mC tc0 ec0 vc0 kc m1.out m1.steps fu ⟨fc.ac, kt⟩) m1.out.length ou1⟩ /\ Mo H nm H1 nm1 /\ VR H1 nm1 v c /\ WR (ouX (mC tc0 ec0 vc0 kc m1.out m1.steps fu ⟨fc.ac, kt⟩) m1.out.length ou1) H1 nm1 m1.heap)
  (fun r σ => ∃ m1 v kt H1 nm1 c ou1, x = .ok (m1, v) /\ r = .one c /\ σ = ⟨0, [], ouX (mC nilPE ec0 vc0 kc m1.out m1.steps fu ⟨fc.ac, kt⟩) m1.out.length ou1⟩ /\ Mo H nm H1 nm1 /\ VR H1 nm1 v c /\ WR (ouX (mC tc0 ec0 vc0 kc m1.out m1.steps fu ⟨fc.ac, kt⟩) m1.out.length ou1) H1 nm1 m1.heap)
  follows (by kernel_rfl) rfl rfl (by decide) (by kernel_rfl) (by kernel_rfl) rfl rfl rfl rfl rfl rfl rfl ?_ ?_ trivial (fun _ _ _=>trivial) (fun _ _ _=>trivial) ?_ ?_ ?_ ?_ ?_
 ·rintro r σ ⟨m1,v,kt,H1,nm1,c,ou1,hx,rfl,rfl,_⟩;rfl
 ·rintro r σ ⟨m1,v,kt,H1,nm1,c,ou1,hx,rfl,rfl,_⟩;rfl
 ·refine Q0x.callP hΓ (hpl _ hN) rfl rfl rfl rfl ⟨trivial,by simp,hdi,trivial⟩ hN.w.ok (fun r ou' hq hr ho=>?_) fun ps ou' h ho=>⟨ho,?_⟩
  rotate_left
  ·obtain⟨c,hx,h1,h2⟩:=h
   exact⟨c,by rw[hx];rfl,h1,h2⟩
  obtain⟨m1,v,hx,kt,H1,nm1,c,rfl,h1,h2,h3⟩:=hq
  have hw:=h3.w
  have e:=h3.ouX
  rw[e]at hw
  exact⟨m1,v,kt,H1,nm1,c,ou',hx,rfl,by rw[←e],h1,h2,hw⟩
 ·rintro r σ ⟨m1,v,kt,H1,nm1,c,ou1,hx,rfl,rfl,_⟩;exact AStep.ofOp tabOk rfl
 ·rintro r σ ⟨m1,v,kt,H1,nm1,c,ou1,hx,rfl,rfl,_⟩;exact AStep.ofOp tabOk rfl
 ·rintro r σ ⟨m1,v,kt,H1,nm1,c,ou1,hx,rfl,rfl,h1⟩;exact⟨_,⟨m1,v,kt,H1,nm1,c,ou1,hx,rfl,setX _ _ _ _,h1⟩,AStep.ofStore tabOk rfl⟩
 ·rintro r σ ⟨m1,v,kt,H1,nm1,c,ou1,hx,rfl,rfl,h1,h2,h3⟩
  refine zA ?_
  have hM:MR fu ⟨fc.ac,kt⟩ (St.set ⟨0,[],ouX (mC nilPE ec0 vc0 kc m1.out m1.steps fu ⟨fc.ac,kt⟩) m1.out.length ou1⟩ (.o 0) (.cells (mC nilPE ec0 c kc m1.out m1.steps fu ⟨fc.ac,kt⟩))).ou H1 nm1 { m1 with c:=.rt v,k:=k }:=MR.ofRt h3 h2 (hk.mo h1) h0.ids.2.1 hfc rfl rfl (fun _=>rfl)
  exact StQ.fin rfl (by rw[hx];rfl) h1 ⟨hM.ex⟩
theorem Qf3(hΓ:∀g cs,(g,cs)∈Γ->idsL isO cs)(h0:M0 fu fc ou H nm m (.box (cTr t)) ec vc kc)(he:ER H nm e ec)(hk:KR H nm m.k kc)(h1:¬(t.op=0∨t.op=1∨t.op=2∨t.op=17∨t.op=5)){x:Except Int Ms}
  (hkid:AFnP Tryz.prog Γ 118 [.one (.ptr (.o 0) 0),.one (.box [.box (cTr t),ec,.sl 1 [],kc])] ou (StQ fu fc H nm x) (StP m x)):AFnP Tryz.prog Γ 120 [.one (.ptr (.o 0) 0)] ou (StQ fu fc H nm x) (StP m x):=by
 have hei:=he.ids
 have hki:=hk.ids
 have hoX:=h0.ouX
 rw[hoX]at hkid ⊢
 generalize hmc:ou=ou0 at hkid
 clear hoX
 refine AFnP.walk 149 tabOk hΓ Tryz.func120 rfl (by kernel_rfl) rfl rfl fun hou=>?_
 cases t with
 |mk to tn tb tk ta=>
 simp only[Tr.op]at h1
 have e0:to≠0:=fun e=>h1 (.inl e)
 have e1:to≠1:=fun e=>h1 (.inr (.inl e))
 have e2:to≠2:=fun e=>h1 (.inr (.inr (.inl e)))
 have e17:to≠17:=fun e=>h1 (.inr (.inr (.inr (.inl e))))
 have e5:to≠5:=fun e=>h1 (.inr (.inr (.inr (.inr e))))
 refine zA ?_
 refine ACode.cond rfl (fun hb=>absurd (by simpa using hb) e0) (fun _=>?_)
 refine zA ?_
 refine ACode.cond rfl (fun hb=>absurd (by simpa using hb) e1) (fun _=>?_)
 refine zA ?_
 refine ACode.cond rfl (fun hb=>absurd (by simpa using hb) e2) (fun _=>?_)
 refine zA ?_
 refine ACode.cond rfl (fun hb=>absurd (by simpa using hb) e17) (fun _=>?_)
 refine zA ?_
 refine ACode.cond rfl (fun hb=>absurd (by simpa using hb) e5) (fun _=>?_)
 refine zA ?_
 refine ACode.drawXH (va:=.one (.ptr (.l 0) 0)) (σ1:=St.push ⟨0,[],ouX (mC (.box (cTr (.mk to tn tb tk ta))) ec vc kc m.out m.steps fu fc) m.out.length ou0⟩ (.cells [.box (cTr (.mk to tn tb tk ta)),ec,.lit (.slice none 0 0),kc])) tabOk 12 11 [] follows (by kernel_rfl) rfl rfl rfl rfl rfl rfl rfl (HStep.auto tabOk rfl) trivial trivial ?_
 refine AOps.freeze1 (.l 0) 26 rfl rfl ?_
 refine AOps.wk 26 rfl (y:=.one (.box [.box (cTr (.mk to tn tb tk ta)),ec,.sl 1 [],kc])) (.one (Wk.box (.cons (.refl _) (.cons (.refl _) (.cons (.nilS 1) (.cons (.refl _) .nil)))))) ?_
 refine AOps.callP hΓ hkid rfl rfl rfl rfl rfl rfl hou ⟨trivial,⟨by simp,hei,trivial,hki,trivial⟩,trivial⟩ (fun ps ou' h ho=>⟨ho,h⟩) fun r ou' hq _ how=>?_
 obtain⟨rfl,H',nm',m',hx,hmo,hM⟩:=hq
 refine zA ?_
 exact StQ.fin rfl hx hmo hM
theorem slot_no(hΓ:∀g cs,(g,cs)∈Γ->idsL isO cs){c:AC}{n:Nat}(hc:notT tCap c∨∃g l,c=iB tCap [int g,.sl 1 l]/\l.length<=n)(ou:Outer):AFnP Tryz.prog Γ 159 [.one c,.one (int n)] ou (fun _ _=>False) (fun ps ou'=>ps=trapE 5/\ou'=ou):=by
 refine AFnP.walk 32 tabOk hΓ Tryz.func159 rfl (by kernel_rfl) rfl rfl fun hou=>?_
 refine zA ?_
 rcases hc with hno|⟨g,l,rfl,hl⟩
 ·refine zS (AStep.assertNo Q3o rfl zCap rfl rfl hno) ?_
  refine zM ?_
  refine zS (AStep.mkIfcA Q0p rfl rfl) ?_
  exact AOps.panicI rfl rfl rfl fun w C v hv=>⟨hou,Q0t hv,rfl⟩
 ·refine zS (AStep.assertYes Q3o rfl rfl) ?_
  refine zM ?_
  refine ACode.cond rfl (fun _=>?_) (fun hb=>absurd hb (by simp;omega))
  refine zA ?_
  refine zS (AStep.mkIfcA Q0p rfl rfl) ?_
  exact AOps.panicI rfl rfl rfl fun w C v hv=>⟨hou,Q0t hv,rfl⟩
theorem Q91(hΓ:∀g cs,(g,cs)∈Γ->idsL isO cs)(h0:M0 fu fc ou H nm m tc0 ec0 vc0 kc0)(hfc:fc.ids isO)(he:ER H nm e ec){c:AC}(hci:c.ids isO)(hk:KR H nm k kc)(hkl:t.kids.length=1)(h16:t.op=16){n:Nat}(hn:t.n=(n:Int))(hc:notT tCap c∨∃g l,c=iB tCap [int g,.sl 1 l]/\l.length<=n){x:Except Int Ms}(hx:x=.error 5){Q:FV->Outer->Prop}:
  AFnP Tryz.prog Γ 118 [.one (.ptr (.o 0) 0),.one (.box [.box (cTr t),ec,.sl 1 [[c]],kc])] ou Q (StP m x):=by
 have hN:=Q37 h0 hk hfc
 have hei:=he.ids
 have hki:=hk.ids
 have hpr:=hN.pr
 have hw:=hN.w
 have hoX:=h0.ouX
 rw[hoX]
 generalize hmc:ou=ou0 at hN hw hpr
 clear hoX
 obtain⟨o,tn,b,ks,al⟩:=t
 simp only[Tr.op,Tr.n,Tr.kids]at h16 hn hkl
 subst h16;subst hn
 have hop:opdN (.mk 16 (n:Int) b ks al)=1:=by show ks.length=1;exact hkl
 refine AFnP.walk 262 tabOk hΓ Tryz.func118 rfl (by kernel_rfl) rfl rfl fun hou=>?_
 refine zA ?_
 refine ACode.drawX tabOk 10 [(9,.one (int (opdN (.mk 16 (n:Int) b ks al))))] follows (by kernel_rfl) rfl rfl rfl rfl ?_ ?_
 ·exact⟨⟨_,rfl,AStep.callPure hΓ rfl rfl rfl (by simp[idsF]) hou (Q2d _)⟩,trivial⟩
 refine zA ?_
 refine ACode.cond rfl (fun hb=>absurd hb (by simp[hop])) (fun hb=>?_)
 refine zA ?_
 refine ACode.stEq (σ':=⟨0,[],ouX (mC tc0 ec0 vc0 kc m.out m.steps fu fc) m.out.length ou0⟩) (setX _ _ _ _) ?_
 refine zA ?_
 refine ACode.drawPan tabOk 19 15 [16,17,18] [(6,.one (.box [c]))] follows (by kernel_rfl) rfl rfl (by kernel_rfl) (by kernel_rfl) rfl ?_ rfl rfl rfl (by kernel_rfl) rfl ?_
 ·exact⟨⟨_,rfl,zIA rfl rfl rfl (by decide) rfl⟩,trivial⟩
 ·refine Q0x.callP hΓ (slot_no hΓ hc _) rfl rfl rfl rfl ⟨hci,trivial,trivial⟩ hw.ok (fun r ou' h=>h.elim) fun ps ou' h ho2=>?_
  obtain⟨rfl,rfl⟩:=h
  exact⟨ho2,5,hx,rfl,hpr⟩
theorem Qfu(hΓ:∀g cs,(g,cs)∈Γ->idsL isO cs){kt:Nat}(h0:M0 fu ⟨.sl 2 (fns.map cFun),kt⟩ ou H nm m tc0 ec0 vc0 kc){n:Nat}{sl:List Vl}{c:AC}(hv:VR H nm (.cap (n:Int) sl) c){f:Fun}(hf:fns[n]?=some f){l:List Vl}{cs:List (List AC)}(hl:VsR H nm l cs)(hpl:f.params.length≠l.length+1)(h20:l.length<=1048576){x:Except Int Ms}(hx:x=.error 5){Q:FV->Outer->Prop}:
  AFnP Tryz.prog Γ 156 [.one (.ptr (.o 0) 0),.one c,.one (.sl 1 cs)] ou Q (StP m x):=by
 have hoX:=h0.ouX
 have hvi:=hv.ids
 have hli:=hl.ids
 have hll:=hl.len
 have hpr:=h0.pr
 rw[hoX]at hpr ⊢
 generalize hmc:ou=ou0 at hpr
 clear hoX
 obtain⟨scs,rfl⟩:∃scs,c=iB tCap [int n,.sl 1 scs]:=by
  rcases hv.isCap with ⟨g,fs,cs,h1,h2,h3⟩|⟨h1,_⟩
  ·cases h1;exact⟨cs,h2⟩
  ·exact absurd rfl (h1 _ sl)
 have n1:notT tClo (iB tCap [int n,.sl 1 scs]):=.inr ⟨_,_,_,rfl,rfl⟩
 have hsc:(fns.map cFun)[n]?=some (cFun f):=by rw[List.getElem?_map,hf];rfl
 refine AFnP.walk 137 tabOk hΓ Tryz.func156 rfl (by kernel_rfl) rfl rfl fun hou=>?_
 refine zA ?_
 refine zS (AStep.assertNo Q40 rfl zClo rfl rfl n1) ?_
 refine zA ?_
 refine zS (AStep.assertYes Q3o rfl rfl) ?_
 refine zA ?_
 refine ACode.drawXA tabOk 11 10 [(8,.one (.box (cFun f)))] follows (by kernel_rfl) rfl rfl rfl rfl rfl rfl rfl rfl rfl ?_ ?_ ?_
 ·exact⟨⟨_,rfl,zIA rfl rfl rfl (by show (0:Int)<=(n:Int);omega) (by simpa using hsc)⟩,trivial⟩
 ·exact⟨⟨_,rfl,zIA rfl rfl rfl (by show (0:Int)<=(n:Int);omega) (by simpa using hsc)⟩,trivial⟩
 refine zM ?_
 refine ACode.cond rfl (fun hb=>absurd hb (by simp;omega)) (fun _=>?_)
 refine zA ?_
 refine zS (AStep.mkIfcA Q0p rfl rfl) ?_
 exact AOps.panicI rfl rfl rfl fun w C v hv=>⟨hou,5,hx,Q0t hv,hpr⟩
theorem Qf1(hΓ:∀g cs,(g,cs)∈Γ->idsL isO cs)(h0:M0 fu fc ou H nm m (.box (cTr t)) ec vc kc)(h17:t.op=17){x:Except Int Ms}(hx:x=.error t.n){Q:FV->Outer->Prop}:AFnP Tryz.prog Γ 120 [.one (.ptr (.o 0) 0)] ou Q (StP m x):=by
 have hpr:=h0.pr
 have hoX:=h0.ouX
 rw[hoX]at hpr ⊢
 generalize hmc:ou=ou0 at hpr
 clear hoX
 refine AFnP.walk 149 tabOk hΓ Tryz.func120 rfl (by kernel_rfl) rfl rfl fun hou=>?_
 cases t with
 |mk to tn tb tk ta=>
 obtain rfl:to=17:=h17
 refine zA ?_
 refine zS (AStep.mkIfcA Q0p rfl rfl) ?_
 exact AOps.panicI rfl rfl rfl fun w C v hv=>⟨hou,tn,hx,Q0t hv,hpr⟩
end
end Go.Proofs.YtmdkenkhaicbeaaGreatDoor
namespace Go.CoreX
def rowOk (ls:List Int):Prop:=ls.Pairwise (· < ·)/\∀x∈ls,0<=x/\x < 1048576
theorem Qgt{ls:List Int}(h:rowOk ls):ls.length<=1048576:=by
 have key:∀(l:List Int) (a:Int),l.Pairwise (· < ·)->(∀x∈l,a<=x/\x < 1048576)->a<=1048576->(l.length:Int)<=1048576 - a:=by
  intro l
  induction l with
  |nil=>intro a _ _ h;simp;omega
  |cons y l ih=>
   intro a hp hx ha
   rw[List.pairwise_cons]at hp
   have hy:=hx y (by simp)
   have:=ih (y+1) hp.2 (fun x hxl=>⟨by have:=hp.1 x hxl;omega,(hx x (by simp[hxl])).2⟩) (by omega)
   simp only[List.length_cons]
   omega
 have:=key ls 0 h.1 h.2 (by omega)
 omega
theorem Qgz{ls:List Int}(h:ls.Pairwise (· < ·)){i j:Nat}(hij:i < j)(hj:j < ls.length):ls.getD i 0 < ls.getD j 0:=by
 rw[List.getD_eq_getElem?_getD,List.getD_eq_getElem?_getD,List.getElem?_eq_getElem hj,List.getElem?_eq_getElem (by omega)]
 exact List.pairwise_iff_getElem.1 h i j (by omega) hj hij
theorem Q87{ls:List Int}(h:ls.Pairwise (· < ·))(x:Int):∀(g i j:Nat),i<=j->j<=ls.length->j - i<=g->(∀k,k < i->ls.getD k 0 < x)->(∀k,j<=k->k < ls.length->x<=ls.getD k 0) ->
  (∀ k, k < bsGo ls x g i j -> ls.getD k 0 < x) /\ (∀ k, bsGo ls x g i j <= k -> k < ls.length -> x <= ls.getD k 0)
 |0,i,j,h1,h2,h3,h4,h5=>by
  have:i=j:=by omega
  subst this
  exact⟨h4,h5⟩
 |g+1,i,j,h1,h2,h3,h4,h5=>by
  unfold bsGo
  split
  ·rename_i hij
   split
   ·rename_i hlt
    refine Q87 h x g _ _ (by omega) h2 (by omega) (fun k hk=>?_) h5
    rcases Nat.lt_or_ge k ((i+j) / 2)with hk2|hk2
    ·have:=Qgz h hk2 (by omega);omega
    ·rw[show k=(i+j) / 2 by omega];exact hlt
   ·rename_i hge
    refine Q87 h x g _ _ (by omega) (by omega) (by omega) h4 fun k hk hkl=>?_
    rcases Nat.lt_or_ge ((i+j) / 2) k with hk2|hk2
    ·have:=Qgz h hk2 hkl;omega
    ·rw[show k=(i+j) / 2 by omega];omega
  ·rename_i hij
   have:i=j:=by omega
   subst this
   exact⟨h4,h5⟩
theorem Qgu{ls:List Int}(h:rowOk ls){n:Int}(hn:0<=n/\n < 1048576)(hb:bsIs ls n=false):rowOk (ls.take (bsAt ls n)++n::ls.drop (bsAt ls n)):=by
 obtain⟨h1,h2⟩:=Q87 h.1 n ls.length 0 ls.length (Nat.zero_le _) (Nat.le_refl _) (by omega) (fun k hk=>by omega) (fun k hk hl=>by omega)
 have hgt:∀k,bsAt ls n<=k->k < ls.length->n < ls.getD k 0:=fun k hk hl=>by
  have h3:=h2 k hk hl
  have hne:ls.getD (bsAt ls n) 0≠n:=fun e=>by
   have:bsIs ls n=true:=by
    unfold bsIs
    rw[e]
    simp;omega
   rw[hb]at this;cases this
  rcases Nat.lt_or_ge (bsAt ls n) k with hk2|hk2
  ·have hbl:bsGo ls n ls.length 0 ls.length < ls.length:=Nat.lt_trans hk2 hl
   have h4:=h2 _ (Nat.le_refl _) hbl
   have h5:=Qgz h.1 hk2 hl
   have:n<=ls.getD (bsAt ls n) 0:=h4
   omega
  ·have e:k=bsAt ls n:=by omega
   subst e;omega
 have mt:∀x∈ls.take (bsAt ls n),x < n:=fun x hx=>by
  obtain⟨k,hk⟩:=List.mem_iff_getElem?.1 hx
  have hkl:=(List.getElem?_eq_some_iff.1 hk).1
  simp at hkl
  rw[List.getElem?_take_of_lt (by omega)]at hk
  have:=h1 k (show k < bsAt ls n by omega)
  rw[List.getD_eq_getElem?_getD,hk]at this
  exact this
 have md:∀x∈ls.drop (bsAt ls n),n < x:=fun x hx=>by
  obtain⟨k,hk⟩:=List.mem_iff_getElem?.1 hx
  have hkl:=(List.getElem?_eq_some_iff.1 hk).1
  simp at hkl
  rw[List.getElem?_drop]at hk
  have:=hgt (bsAt ls n+k) (by omega) (by omega)
  rw[List.getD_eq_getElem?_getD,hk]at this
  exact this
 refine⟨List.pairwise_append.2 ⟨h.1.sublist (List.take_sublist _ _),List.pairwise_cons.2 ⟨md,h.1.sublist (List.drop_sublist _ _)⟩,fun a ha b hb2=>?_⟩,fun x hx=>?_⟩
 ·have:=mt a ha
  rcases List.mem_cons.1 hb2 with rfl|hb3
  ·exact this
  ·have:=md b hb3;omega
 ·rcases List.mem_append.1 hx with hx|hx
  ·exact h.2 x (List.mem_of_mem_take hx)
  ·rcases List.mem_cons.1 hx with rfl|hx
   ·exact hn
   ·exact h.2 x (List.mem_of_mem_drop hx)
end Go.CoreX
namespace Go.Proofs.YtmdkenkhaicbeaaGreatDoor
open Go Go.Abs Go.CoreX
variable {Γ:List (Nat×List AC)}
structure FragU (fns:List Fun)(hi:Bool)(l:Lab):Prop where
 sh:shpQ l
 op:l.op=12∨l.op=13->hi=true
 bl:l.binds.length<=1048576
 al:l.alts.length<=1048576
 ab:∀a∈l.alts,a.binds.length<=1048576
 kl:l.ops.length<=1048576
 wd:l.op=1->inW l.n
 rc:l.op=5->∀i,i < l.binds.length->l.ops[i]?=some 2
 cl:l.op=14∨l.op=15->0<=l.n/\l.n < fns.length
 ar:l.op=14->(fns.getD l.n.toNat ⟨[],default⟩).params.length=l.ops.length
 sl:l.op=16->0<=l.n
 rb:l.op=9->rowOk l.binds
 rn:l.op=11->0<=l.n/\l.n < 1048576
structure FnsU (fns:List Fun)(hi:Bool):Prop where
 b:∀f∈fns,allT (FragU fns hi) f.body
 p:∀f∈fns,f.params.length<=1048576
def GU (fns:List Fun)(hi:Bool):GP:={ p:=FragU fns hi,S:=fun _=>True,W:=inW,fns:=fns,R:=hi=true,RW:=rowOk }
theorem GUok{fns:List Fun}{hi:Bool}(hf:FnsU fns hi):GPok (GU fns hi) where
 sh:=fun l h=>h.sh
 bnd:=fun _ _ _ _=>trivial
 wd:=fun l h h1=>h.wd h1
 rc:=fun l h h1=>h.rc h1
 wr:=fun n=>by show inW (wrapW n);unfold inW wrapW;omega
 wl:=fun n h0 h1=>by show inW n;unfold inW;omega
 wm:=fun a b ha hb=>Qdj ha hb
 fn:=fun f h=>⟨hf.b f h,fun _ _=>trivial⟩
 cl:=fun l h ho=>h.cl ho
 rs:=fun l h ho=>h.op (.inl ho)
 rw:=fun l h ho=>h.rb ho
 ri:=fun l h ho ls hl hb=>Qgu hl (h.rn ho) hb
theorem GUopn{fns:List Fun}{hi:Bool}{t:Tr}(h:allT (FragU fns hi) t):opdN t<=1048576:=by
 have F:FragU fns hi ⟨t.op,t.n,t.binds,t.kids.map Tr.op,t.alts⟩:=Q0n h
 have:=F.kl
 simp at this
 unfold opdN
 split <;> omega

section
variable {fu:Int}{ac:AC}
structure MoreU (fns:List Fun)(hi:Bool)(fu:Int)(ac:AC)(Γ:List (Nat×List AC)):Prop where
 res:hi=true->∀(ou:Outer) (H:Hm) (nm:Nm2) (m:Ms) (k fs:List Fm) (kc tc0 ec0 vc0:AC) (kt:Nat) (vc:AC) (a:Vl) (c:AC),M0 fu ⟨ac,kt⟩ ou H nm m tc0 ec0 vc0 kc->KR H nm k kc->VR H nm (.res fs) vc->VR H nm a c->gFs (GU fns hi) fs->(fs++k).length<=1048576->
  AFn Tryz.prog Γ 156 [.one (.ptr (.o 0) 0),.one vc,.one (.sl 1 [[c]])] ou (StQ fu ⟨ac,kt⟩ H nm (.ok { m with c:=.rt a,k:=fs++k }))
 kid:hi=true->∀(ou:Outer) (H:Hm) (nm:Nm2) (m m':Ms) (t:Tr) (e:En) (d:List Vl) (k:List Fm) (ec kc tc0 ec0 vc0 kc0:AC) (dc:List (List AC)) (kt:Nat),M0 fu ⟨ac,kt⟩ ou H nm m tc0 ec0 vc0 kc0->ER H nm e ec->VsR H nm d dc->KR H nm k kc->
  allT (FragU fns hi) t->gFs (GU fns hi) k->k.length<=1048576->d.length=1->t.op=12∨t.op=13->kidM fu fns m (.mk t e d) k=.ok m'->AFn Tryz.prog Γ 118 [.one (.ptr (.o 0) 0),.one (.box [.box (cTr t),ec,.sl 1 dc,kc])] ou (StQ fu ⟨ac,kt⟩ H nm (.ok m'))
theorem MoreU.no{fns:List Fun}{fu:Int}{ac:AC}:MoreU fns false fu ac Γ:=⟨(fun h=>by cases h),(fun h=>by cases h)⟩
theorem PR.k{ou:Outer}{m:Ms}{k:List Fm}(h:PR ou { m with k:=k }):PR ou m:=⟨h.ok,h.m0⟩
theorem M0.k{fc:FcT}{ou:Outer}{H:Hm}{nm:Nm2}{m:Ms}{k:List Fm}{tc ec vc kc:AC}(h:M0 fu fc ou H nm m tc ec vc kc):M0 fu fc ou H nm { m with k:=k } tc ec vc kc:=⟨h.ids,h.m0,h.w⟩
def KidP (fu:Int)(ac:AC)(G:GP)(Γ:List (Nat×List AC)):Prop:=∀(ou:Outer)(H:Hm)(nm:Nm2)(m:Ms)(t:Tr)(e:En)(d:List Vl)(k:List Fm)(ec kc tc0 ec0 vc0 kc0:AC)(dc:List (List AC))(kt:Nat),M0 fu ⟨ac,kt⟩ ou H nm m tc0 ec0 vc0 kc0->ER H nm e ec->VsR H nm d dc->KR H nm k kc->
 allT G.p t->gE G e->gVs G d->d.length<=opdN t->nLf t.op->gFs G k->(G.R->k.length<=1048576)->m.out.length<=1000->0<=m.steps/\m.steps<=1000000->(t.op=12->∃m',kidM fu G.fns m (.mk t e d) k=.ok m')->(∀m',kidM fu G.fns m (.mk t e d) k=.ok m'->G.R->m'.k.length<=1048576)->
 AFnP Tryz.prog Γ 118 [.one (.ptr (.o 0) 0),.one (.box [.box (cTr t),ec,.sl 1 dc,kc])] ou (StQ fu ⟨ac,kt⟩ H nm (kidM fu G.fns m (.mk t e d) k)) (StP m (kidM fu G.fns m (.mk t e d) k))
def StartP (fu:Int)(ac:AC)(G:GP)(Γ:List (Nat×List AC)):Prop:=∀(ou:Outer)(H:Hm)(nm:Nm2)(m:Ms)(t:Tr)(e:En)(ec vc kc:AC)(kt:Nat),M0 fu ⟨ac,kt⟩ ou H nm m (.box (cTr t)) ec vc kc->ER H nm e ec->KR H nm m.k kc->
 allT G.p t->gE G e->gFs G m.k->(G.R->m.k.length<=1048576)->m.out.length<=1000->0<=m.steps/\m.steps<=1000000->(t.op=12->∃m',Q0d fu G.fns m t e=.ok m')->(∀m',Q0d fu G.fns m t e=.ok m'->G.R->m'.k.length<=1048576)->
 AFnP Tryz.prog Γ 120 [.one (.ptr (.o 0) 0)] ou (StQ fu ⟨ac,kt⟩ H nm (Q0d fu G.fns m t e)) (StP m (Q0d fu G.fns m t e))
theorem kidU(hΓ:∀g cs,(g,cs)∈Γ->idsL isO cs){fns:List Fun}{hi:Bool}(hf:FnsU fns hi)(hfu:0<=fu/\fu<=1000000)(hmore:MoreU fns hi fu (.sl 2 (fns.map cFun)) Γ):KidP fu (.sl 2 (fns.map cFun)) (GU fns hi) Γ:=by
 intro ou H nm m t e d k ec kc tc0 ec0 vc0 kc0 dc kt h0 he hd hk ht hge hgd hle hn hgk hkb hol hst h12 hnx
 have F:FragU fns hi ⟨t.op,t.n,t.binds,t.kids.map Tr.op,t.alts⟩:=Q0n ht
 have hsh:=g_sh (GUok hf) ht
 have hopk:=g_opN (GUok hf) ht
 have hfc:(FcT.mk (.sl 2 (fns.map cFun)) kt).ids isO:=by show idsS isO _;simp
 show AFnP _ _ _ _ _ (StQ fu _ H nm (kidM fu fns m (.mk t e d) k)) (StP m (kidM fu fns m (.mk t e d) k))
 replace h12:t.op=12->∃m',kidM fu fns m (.mk t e d) k=.ok m':=h12
 replace hnx:∀m',kidM fu fns m (.mk t e d) k=.ok m'->hi=true->m'.k.length<=1048576:=hnx
 by_cases hlt:d.length < opdN t
 ·obtain⟨s,hs⟩:=Q01 (Nat.lt_of_lt_of_le hlt hopk)
  exact Qec (fns:=fns) hΓ h0 hfc he hd hk hlt hs
 have hl:d.length=opdN t:=by omega
 have hnl:¬(Fm.mk t e d).done.length < opdN (Fm.mk t e d).t:=hlt
 have hkm:∀{x:Except Int Ms},x=kidM fu fns m (.mk t e d) k->AFnP Tryz.prog Γ 118 [.one (.ptr (.o 0) 0),.one (.box [.box (cTr t),ec,.sl 1 dc,kc])] ou (StQ fu ⟨.sl 2 (fns.map cFun),kt⟩ H nm x) (StP m x)->AFnP Tryz.prog Γ 118 [.one (.ptr (.o 0) 0),.one (.box [.box (cTr t),ec,.sl 1 dc,kc])] ou (StQ fu ⟨.sl 2 (fns.map cFun),kt⟩ H nm (kidM fu fns m (.mk t e d) k)) (StP m (kidM fu fns m (.mk t e d) k)):=fun h1 h2=>by rw[←h1];exact h2
 have hwr:∀v∈d,wdV v/\rowV v:=fun v hv=>by
  have hg:=Q1r.1 hgd v hv
  refine⟨fun n hn=>by rw[hn]at hg;exact hg,fun ls fs hr=>?_⟩
  rw[hr]at hg
  exact⟨hg.1,Qgt hg.2.1⟩
 have hops:=Qgj hsh
 obtain⟨o,n,b,ks,al⟩:=t
 simp only[Tr.op,Tr.n,Tr.binds,Tr.kids,Tr.alts]at F hsh h12 hops
 by_cases h1213:o=12∨o=13
 · -- an operation, a handler
  have hhi:hi=true:=F.op h1213
  have hl1:d.length=1:=by rw[hl];exact if_pos (show o=4∨o=7∨o=13∨o=12 by omega)
  obtain⟨m',hx⟩:∃m',kidM fu fns m (.mk (.mk o n b ks al) e d) k=.ok m':=by
   rcases h1213 with h|h
   ·exact h12 h
   ·have hx:kidM fu fns m (.mk (.mk o n b ks al) e d) k=.ok { m with c:=.ev (ks.getD 1 default) (.bind ((al.getD 0 ⟨0,[]⟩).binds.getD 0 0) (d.getD 0 .nil) e),k:=k }:=by
     unfold kidM
     rw[if_neg hnl]
     rw[if_neg (show ¬(Fm.mk (Tr.mk o n b ks al) e d).t.op=4 from (by omega:¬o=4)),if_neg (show ¬(Fm.mk (Tr.mk o n b ks al) e d).t.op=7 from (by omega:¬o=7)),if_neg (show ¬(Fm.mk (Tr.mk o n b ks al) e d).t.op=3 from (by omega:¬o=3)),if_pos (show (Fm.mk (Tr.mk o n b ks al) e d).t.op=13 from h)]
     rfl
    exact⟨_,hx⟩
  refine hkm hx.symm (AFn.toP ?_)
  exact hmore.kid hhi ou H nm m m' _ e d k ec kc tc0 ec0 vc0 kc0 dc kt h0 he hd hk ht hgk (hkb hhi) hl1 h1213 hx
 by_cases h3:o=3
 ·subst h3
  have hopn:opdN (.mk 3 n b ks al)=ks.length:=rfl
  have hkl:=hsh.app.1
  rw[hopn]at hl
  match d,hd,hl with
  |[],_,hl=>simp at hl;omega
  |v0::ds,hd,hl=>
   obtain⟨c0,dcs,rfl,hv0,hds⟩:=hd.consE
   have hke:callM fns { m with k:=k } v0 ds=kidM fu fns m (.mk (.mk 3 n b ks al) e (v0::ds)) k:=by
    unfold kidM;rw[if_neg hnl];rfl
   rw[←hke]at hnx ⊢
   refine Qkh hΓ h0 hfc he hv0 hds hk (by simpa using hl) rfl (fun ou' h0'=>?_)
   cases v0 with
   |clo t' e'=>
    obtain⟨g1,g2,g3⟩:=hgd.1
    have F':FragU fns hi ⟨t'.op,t'.n,t'.binds,t'.kids.map Tr.op,t'.alts⟩:=Q0n g2
    have hsh':=g_sh (GUok hf) g2
    rw[g1]at hsh'
    obtain⟨s,hs⟩:=Q01 (l:=t'.kids) (i:=0) (by have:=hsh'.lam.1;omega)
    cases hv0 with
    |clo _ _ c he'=>exact Qeq hΓ h0' hfc hk he' hds hs F'.bl
    |cloP _ _ c q hq he'=>exact Qbv hΓ h0' hfc hk hq he' hds hs F'.bl
   |cap g s=>
    obtain⟨⟨hg0,hg1⟩,_⟩:=hgd.1
    obtain⟨i,rfl⟩:∃i:Nat,g=(i:Int):=⟨g.toNat,by omega⟩
    have hi2:i < fns.length:=by have:((i:Int)) < ((GU fns hi).fns.length:Int):=hg1;simpa[GU]using this
    obtain⟨f,hfi⟩:=Q01 hi2
    have hgd':fns.getD (i:Int).toNat ⟨[],default⟩=f:=by rw[Int.toNat_natCast,List.getD_eq_getElem?_getD,hfi];rfl
    simp only[callM,hgd']
    by_cases hpl:f.params.length=ds.length+1
    ·rw[if_pos hpl]
     exact AFn.toP (Qkv hΓ h0' hk hv0 hfi hds hpl (hf.p f (List.mem_of_getElem? hfi)))
    ·rw[if_neg hpl]
     exact Qfu hΓ h0' hv0 hfi hds hpl (by have:=F.kl;simp at this;simp at hl;omega) rfl
   |res fs=>
    have hR:hi=true:=hgd.1.1
    by_cases h1:ds.length=1
    ·obtain⟨a,rfl⟩:=list1 h1
     obtain⟨c,ds2,rfl,hva,hnil⟩:=hds.consE
     have hz:=hnil.nilE
     subst hz
     exact AFn.toP (hmore.res hR ou' H nm m k fs kc tc0 ec0 vc0 kt _ a c h0' hk hv0 hva hgd.1.2 (hnx _ rfl hR))
    ·exact Qin hΓ h0' hv0 hds (by simp) (by simp) (.inr h1)
   |_=>exact Qin hΓ h0' hv0 hds (by simp) (by simp) (.inl (by simp))
 by_cases h4:o=4
 ·subst h4
  obtain⟨v,rfl⟩:=list1 (l:=d) hl
  obtain⟨hk2,hb1,_⟩:=hsh.lett
  obtain⟨id,rfl⟩:=list1 hb1
  obtain⟨s0,s1,rfl⟩:=list2 hk2
  exact Qhs (fns:=fns) (t:=.mk 4 n [id] [s0,s1] al) (s:=s1) (id:=id) hΓ h0 hfc he hd hk (v:=v) rfl rfl rfl rfl
 by_cases h7:o=7
 ·subst h7
  obtain⟨v,rfl⟩:=list1 (l:=d) hl
  have hke:Q1y { m with k:=k } (.mk 7 n b ks al) e v=kidM fu fns m (.mk (.mk 7 n b ks al) e [v]) k:=by
   unfold kidM;rw[if_neg hnl];rfl
  refine hkm hke (Qhu hΓ h0 hfc he hd hk rfl rfl fun ou' h0'=>?_)
  exact Qbq (t:=.mk 7 n b ks al) hΓ h0' hfc he hd hk (v:=v) rfl hsh.case.1 F.al F.ab kc hk.ids
 by_cases h14:o=14
 ·subst h14
  obtain⟨h1,h2⟩:=F.cl (.inl rfl)
  obtain⟨i,rfl⟩:∃i:Nat,n=(i:Int):=⟨n.toNat,by simp only at h1;omega⟩
  have hi2:i < fns.length:=by simpa using h2
  obtain⟨f,hfi⟩:=Q01 hi2
  have hgd':fns.getD (i:Int).toNat ⟨[],default⟩=f:=by rw[Int.toNat_natCast,List.getD_eq_getElem?_getD,hfi];rfl
  have har:=F.ar rfl
  simp only[hgd',List.length_map]at har
  have hdl:d.length=ks.length:=hl
  have hke:Except.ok { m with c:=.ev f.body (allE .nil f.params d),k:=k }=kidM fu fns m (.mk (.mk 14 (i:Int) b ks al) e d) k:=by
   unfold kidM;rw[if_neg hnl];rw[←hgd'];rfl
  exact hkm hke (AFn.toP (kid_fn (t:=.mk 14 (i:Int) b ks al) hΓ h0 he hd hk hdl rfl rfl hfi (by omega) (hf.p f (List.mem_of_getElem? hfi))))
 by_cases h15:o=15
 ·subst h15
  have hke:Except.ok { m with c:=.rt (.cap n d),k:=k }=kidM fu fns m (.mk (.mk 15 n b ks al) e d) k:=by
   unfold kidM;rw[if_neg hnl];rfl
  exact hkm hke (AFn.toP (Qkf hΓ h0 hfc he hd hk hl rfl))
 by_cases h16:o=16
 ·subst h16
  have hn0:0<=n:=F.sl rfl
  obtain⟨i,rfl⟩:∃i:Nat,n=(i:Int):=⟨n.toNat,by omega⟩
  have hopn:opdN (.mk 16 (i:Int) b ks al)=ks.length:=rfl
  have hk1:ks.length=1:=(hsh.one (.inr (.inr rfl))).1
  obtain⟨v,rfl⟩:=list1 (l:=d) (by omega)
  obtain⟨c,dd,rfl,hv,hdd⟩:=hd.consE
  have hz:=hdd.nilE
  subst hz
  have hke:(match (generalizing:=false) v with
   |.cap _ slots=>if (i:Int) < slots.length then (Except.ok { m with c:=.rt (slots.getD (i:Int).toNat .nil),k:=k }:Except Int Ms)else .error 5
   |_=>.error 5)=kidM fu fns m (.mk (.mk 16 (i:Int) b ks al) e [v]) k:=by
   unfold kidM;rw[if_neg hnl];rfl
  refine hkm hke ?_
  rcases hv.isCap with ⟨g,s,l,rfl,rfl,hsl⟩|⟨hvn,hno⟩
  ·have hsll:=hsl.len
   simp only
   by_cases hlt2:(i:Int) < s.length
   ·rw[if_pos hlt2]
    obtain⟨y,hy⟩:=Q01 (show i < s.length by omega)
    have hgy:s.getD (i:Int).toNat .nil=y:=by rw[Int.toNat_natCast,List.getD_eq_getElem?_getD,hy];rfl
    rw[hgy]
    exact AFn.toP (Qke (t:=.mk 16 (i:Int) b ks al) hΓ h0 hfc he hv hk hk1 rfl rfl hy)
   ·rw[if_neg hlt2]
    exact Q91 (t:=.mk 16 (i:Int) b ks al) hΓ h0 hfc he hv.ids hk hk1 rfl rfl (.inr ⟨g,l,rfl,by omega⟩) rfl
  ·refine Q91 (t:=.mk 16 (i:Int) b ks al) hΓ h0 hfc he hv.ids hk hk1 rfl rfl (.inl hno) ?_
   cases v <;> first|rfl|exact absurd rfl (hvn _ _)
 · -- a plain node
  have hpo:o=6∨o=8∨o=9∨o=10∨o=11:=by
   unfold nLf at hn
   simp only[Tr.op]at hn
   omega
  have hdl:d.length=ks.length:=by rw[hl];exact if_neg (show ¬(o=4∨o=7∨o=13∨o=12) by omega)
  have hke:(Q0r fu { m with k:=k } (.mk o n b ks al) d).map (fun (m1,v)=>{ m1 with c:=.rt v,k:=k })=kidM fu fns m (.mk (.mk o n b ks al) e d) k:=by
   unfold kidM
   rw[if_neg hnl]
   rw[if_neg (show ¬(Fm.mk (Tr.mk o n b ks al) e d).t.op=4 from h4),if_neg (show ¬(Fm.mk (Tr.mk o n b ks al) e d).t.op=7 from h7),if_neg (show ¬(Fm.mk (Tr.mk o n b ks al) e d).t.op=3 from h3),if_neg (show ¬(Fm.mk (Tr.mk o n b ks al) e d).t.op=13 from (by omega:¬o=13)),if_neg (show ¬(Fm.mk (Tr.mk o n b ks al) e d).t.op=12 from (by omega:¬o=12)),if_neg (show ¬(Fm.mk (Tr.mk o n b ks al) e d).t.op=14 from h14),if_neg (show ¬(Fm.mk (Tr.mk o n b ks al) e d).t.op=15 from h15),if_neg (show ¬(Fm.mk (Tr.mk o n b ks al) e d).t.op=16 from h16)]
   show _=(Q0r fu { m with k:=k } (.mk o n b ks al) d).map (fun (m',v)=>{ m' with c:=.rt v })
   cases hp:Q0r fu { m with k:=k } (.mk o n b ks al) d with
   |error c=>rfl
   |ok mv=>
    obtain⟨m1,v⟩:=mv
    have hpk:=(Q2o hp).2.2
    cases m1
    simp only at hpk
    rw[hpk];rfl
  refine hkm hke (Qfj hΓ h0 hfc he hd hk hl (by simp only[Tr.op];omega) fun ou' h0'=>?_)
  refine AFnP.mono (Qf9 (m:={ m with k:=k }) (t:=.mk o n b ks al) hΓ h0'.k hfc hst hfu hol hd hpo hsh hdl hwr) (fun r ou2 hq=>?_) fun ps ou2 hq=>?_
  ·exact hq
  ·obtain⟨c,h1,h2,h3⟩:=hq
   exact⟨c,h1,h2,h3.k⟩
theorem startU(hΓ:∀g cs,(g,cs)∈Γ->idsL isO cs){fns:List Fun}{hi:Bool}(hf:FnsU fns hi)(hk:KidP fu (.sl 2 (fns.map cFun)) (GU fns hi) Γ):StartP fu (.sl 2 (fns.map cFun)) (GU fns hi) Γ:=by
 intro ou H nm m t e ec vc kc kt h0 he hkr ht hge hgk hkb hol hst h12 hnx
 have F:FragU fns hi ⟨t.op,t.n,t.binds,t.kids.map Tr.op,t.alts⟩:=Q0n ht
 have hsh:=g_sh (GUok hf) ht
 have hfc:(FcT.mk (.sl 2 (fns.map cFun)) kt).ids isO:=by show idsS isO _;simp
 show AFnP _ _ _ _ _ (StQ fu _ H nm (Q0d fu fns m t e)) (StP m (Q0d fu fns m t e))
 replace h12:t.op=12->∃m',Q0d fu fns m t e=.ok m':=h12
 replace hnx:∀m',Q0d fu fns m t e=.ok m'->hi=true->m'.k.length<=1048576:=hnx
 by_cases e0:t.op=0
 ·have hx:Q0d fu fns m t e=.ok { m with c:=.rt (findE t.n e) }:=by unfold Q0d;rw[if_pos e0]
  rw[hx];exact AFn.toP (Qav hΓ h0 hfc he hkr e0)
 by_cases e1:t.op=1
 ·have hx:Q0d fu fns m t e=.ok { m with c:=.rt (.word t.n) }:=by unfold Q0d;rw[if_neg e0,if_pos e1]
  rw[hx];exact AFn.toP (Qay hΓ h0 hfc hkr e1)
 by_cases e2:t.op=2
 ·have hx:Q0d fu fns m t e=.ok { m with c:=.rt (.clo t e) }:=by unfold Q0d;rw[if_neg e0,if_neg e1,if_pos e2]
  rw[hx];exact AFn.toP (Qax hΓ h0 hfc he hkr e2)
 by_cases e17:t.op=17
 ·exact Qf1 hΓ h0 e17 (by unfold Q0d;rw[if_neg e0,if_neg e1,if_neg e2,if_pos e17])
 by_cases e5:t.op=5
 ·rw[e5]at hsh
  have hx:Q0d fu fns m t e=.ok { m with c:=.ev (t.kids.getD t.binds.length default) (.recs t e) }:=by unfold Q0d;rw[if_neg e0,if_neg e1,if_neg e2,if_neg e17,if_pos e5]
  rw[hx];exact AFn.toP (Qaw hΓ h0 hfc he hkr e5 hsh.recs.1 F.bl)
 ·have hx:Q0d fu fns m t e=kidM fu fns m (.mk t e []) m.k:=by unfold Q0d;rw[if_neg e0,if_neg e1,if_neg e2,if_neg e17,if_neg e5]
  rw[hx]at h12 hnx ⊢
  have hnl:nLf t.op:=fun h=>by rcases h with h|h|h|h|h <;> contradiction
  exact Qf3 hΓ h0 he hkr hnl (hk ou H nm m t e [] m.k ec kc _ _ _ _ [] kt h0 he .nil hkr ht hge trivial (Nat.zero_le _) hnl hgk hkb hol hst h12 hnx)
end
end Go.Proofs.YtmdkenkhaicbeaaGreatDoor
namespace Go.CoreX
theorem Qh2{fu:Int}{m m':Ms}{n:Int}{l:List Vl}{v:Vl}(h:primM fu m n l=.ok (m',v)):m.out.length<=1000->m'.out.length<=1000:=by
 unfold primM at h
 repeat' split at h
 all_goals try (simp only[bind,Except.bind,pure,Except.pure]at h;repeat' split at h)
 all_goals try (cases h;done)
 all_goals try (cases h;exact id)
 ·rename_i hne
  cases h;intro h1;simp;omega
 ·unfold Q39 at h
  repeat' split at h
  all_goals try (cases h;done)
  cases h;exact id
 ·unfold Q2i at h
  simp only[bind,Except.bind,pure,Except.pure]at h
  repeat' split at h
  all_goals try (cases h;done)
  all_goals (cases h;exact id)
theorem Qf8{fu:Int}{m m':Ms}{t:Tr}{l:List Vl}{v:Vl}(h:Q0r fu m t l=.ok (m',v)):m.out.length<=1000->m'.out.length<=1000:=by
 unfold Q0r at h
 repeat' split at h
 ·cases h;exact id
 ·exact Qh2 h
 ·cases h;exact id
 ·simp only[bind,Except.bind,pure,Except.pure]at h
  repeat' split at h
  all_goals try (cases h;done)
  all_goals (cases h;exact id)
 ·simp only[bind,Except.bind,pure,Except.pure]at h
  repeat' split at h
  all_goals try (cases h;done)
  all_goals (cases h;exact id)
theorem Qeb{fu:Int}{fns:List Fun}{m m':Ms}{f:Fm}{k:List Fm}(h:kidM fu fns m f k=.ok m'):m.out.length<=1000->m'.out.length<=1000:=by
 unfold kidM at h
 repeat' split at h
 all_goals try (cases h;done)
 all_goals try (cases h;exact id)
 ·unfold Q1y at h
  split at h
  ·cases hc:Q0w _ _ f.e f.t.kids 0 f.t.alts <;> rw[hc]at h <;> cases h
   exact id
  ·cases h
 ·unfold callM at h
  repeat' split at h
  all_goals try (cases h;done)
  all_goals (cases h;exact id)
 ·rw[Q52 _ _ h];exact id
 ·cases hp:Q0r fu { m with k:=k } f.t f.done with
  |error c=>rw[hp]at h;cases h
  |ok mv=>
   rw[hp]at h;cases h
   obtain⟨m2,v2⟩:=mv
   exact Qf8 (m:={ m with k:=k }) (m':=m2) hp
theorem Qf2{fu:Int}{fns:List Fun}{m m':Ms}{t:Tr}{e:En}(h:Q0d fu fns m t e=.ok m'):m.out.length<=1000->m'.out.length<=1000:=by
 unfold Q0d at h
 repeat' split at h
 all_goals try (cases h;done)
 all_goals try (cases h;exact id)
 exact Qeb h
theorem Q8n{fu:Int}{fns:List Fun}{m m':Ms}(h:Q05 fu fns m=.next m'):m.out.length<=1000->m'.out.length<=1000:=by
 unfold Q05 at h
 repeat' split at h
 all_goals try (cases h;done)
 ·rename_i hk;cases h;exact Qeb hk
 ·rename_i hk;cases h;exact Qf2 (m:={ m with steps:=m.steps+1 }) hk

structure RunInv (fu:Int)(fns:List Fun)(R:Prop)(I:Ms->Prop):Prop where
 st:∀m m',I m->Q05 fu fns m=.next m'->I m'
 fr:R->∀m,I m->m.k.length<=1048576
 pf:∀m,I m->∀v f k,m.c=.rt v->m.k=f::k->f.t.op=12->∃m',kidM fu fns m (.mk f.t f.e (f.done++[v])) k=.ok m'
end Go.CoreX
namespace Go.Proofs.YtmdkenkhaicbeaaGreatDoor
open Go Go.Abs Go.CoreX
variable {Γ:List (Nat×List AC)}
section
variable {fu:Int}{ac:AC}{G:GP}
def RunQ (fu:Int)(ac:AC)(kt0:Nat)(r:Rd):FV->Outer->Prop:=fun b ou'=>match r with
 |.done mf vf=>b=.one (.lit (.bool true))/\mf.c=.rt vf/\mf.k=[]/\∃H' nm',MR fu ⟨ac,kt0⟩ ou' H' nm' mf
 |.fuel=>b=.one (.lit (.bool false))/\∃m H' nm',MR fu ⟨ac,kt0⟩ ou' H' nm' m
 |_=>False
def RunP (r:Rd):List PanicEntry->Outer->Prop:=fun ps ou'=>∃c m,r=.trap c m/\ps=trapE c/\PR ou' m
theorem Qjm(hΓ:∀g cs,(g,cs)∈Γ->idsL isO cs)(hac:ac.ids isO)(hG:GPok G)(hopn:∀t,allT G.p t->opdN t<=1048576)(hkid:KidP fu ac G Γ)(hstart:StartP fu ac G Γ){I:Ms->Prop}(hI:RunInv fu G.fns G.R I){ou:Outer}{H:Hm}{nm:Nm2}{m0:Ms}{kt0:Nat}(h0:MR fu ⟨ac,kt0⟩ ou H nm m0)(hg0:gM G m0){g0:Nat}{r0:Rd}(hgo:goX fu G.fns g0 m0=some r0)(hi0:I m0)(hol0:m0.out.length<=1000)(hfu:0<=fu/\fu<=1000000)(hst0:0<=m0.steps/\m0.steps<=fu):
  AFnP Tryz.prog Γ 94 [.one (.ptr (.o 0) 0)] ou (RunQ fu ac kt0 r0) (RunP r0):=by
 refine AFnP.walk 70 tabOk hΓ Tryz.func94 rfl (by kernel_rfl) rfl rfl fun hou=>?_
 refine zA ?_
 refine ACode.loopR hΓ (α:=Outer×Hm×Nm2×Ms) (fun a=>[(0,.one (.ptr (.o 0) 0))]) (fun a=>⟨0,[],a.1⟩) (fun g a=>MR fu ⟨ac,kt0⟩ a.1 a.2.1 a.2.2.1 a.2.2.2/\gM G a.2.2.2/\goX fu G.fns g a.2.2.2=some r0/\(0<=a.2.2.2.steps/\a.2.2.2.steps<=fu)/\I a.2.2.2/\a.2.2.2.out.length<=1000)
  (a0:=(ou,H,nm,m0)) (ρ:=_root_.id) ⟨h0,hg0,hgo,hst0,hi0,hol0⟩ (LessR.of rfl zFW (by simp) zLO rfl rfl hou) fun g a ha=>?_
 obtain⟨ou1,H1,nm1,m⟩:=a
 obtain⟨hM,hgm,hgo,hst,hIm,holm⟩:=ha
 dsimp only at hM hgm hgo hst hIm holm ⊢
 clear hou h0 hg0 hst0 hi0 hol0
 obtain⟨kt,tc,ec,vc,kc,hCR,hKR,h0⟩:=hM.ex
 have hou:=h0.w.ok
 obtain⟨g,rfl⟩:∃g',g=g'+1:=by
  cases g with
  |zero=>cases hgo
  |succ g=>exact⟨g,rfl⟩
 simp only[goX]at hgo
 have hkl:G.R->m.k.length<=1048576:=fun hR=>hI.fr hR m hIm
 have hIn:∀m1,Q05 fu G.fns m=.next m1->I m1:=fun m1 h1=>hI.st m m1 hIm h1
 have hpf:=hI.pf m hIm
 have hnle:∀m1,Q05 fu G.fns m=.next m1->m1.steps<=fu:=fun m1 h1=>(Q2l h1 hst.2).1
 have hnol:∀m1,Q05 fu G.fns m=.next m1->m1.out.length<=1000:=fun m1 h1=>Q8n h1 holm
 have hids:=h0.ids
 have hoX:=h0.ouX
 have hki:=hKR.ids
 have hw:=h0.w
 rw[hoX]at hw hou ⊢
 obtain⟨mc,mk,mo,ms,mh⟩:=m
 dsimp only at hgo hst hw hou hids hki holm h0 hkl hIn hpf hnle hnol ⊢
 cases hCR with
 |ev t e ec vc he=>
  have hei:=he.ids
  by_cases hsf:ms=fu
  ·have hr:Q05 fu G.fns ⟨.ev t e,mk,mo,ms,mh⟩=.fuel:=by simp[Q05,hsf]
   rw[hr]at hgo
   cases hgo
   refine zA ?_
   refine zS (AStep.neNilBox Tryz.underlying68 rfl rfl rfl) ?_
   refine zM ?_
   refine zS (AStep.eqNilBox Tryz.underlying68 rfl rfl rfl) ?_
   refine zA ?_
   refine ACode.drawX tabOk 8 [] follows (by kernel_rfl) rfl rfl rfl rfl trivial ?_
   refine zA ?_
   refine ACode.cond rfl (fun _=>?_) (fun hb=>absurd hsf (by simpa using hb))
   refine zA ?_
   refine AFn.fin' rfl (WkF.ofEq rfl) (by simp) hou ⟨rfl,⟨.ev t e,mk,mo,ms,mh⟩,H1,nm1,⟨⟨kt,_,ec,vc,kc,.ev t e ec vc he,hKR,?_⟩⟩⟩
   rw[←hoX];exact h0
  rw[Q12 rfl hsf]at hgo
  refine zA ?_
  refine zS (AStep.neNilBox Tryz.underlying68 rfl rfl rfl) ?_
  refine zM ?_
  refine zS (AStep.eqNilBox Tryz.underlying68 rfl rfl rfl) ?_
  refine zA ?_
  refine ACode.drawX tabOk 8 [] follows (by kernel_rfl) rfl rfl rfl rfl trivial ?_
  refine zA ?_
  refine ACode.cond rfl (fun hb=>absurd (by simpa using hb) hsf) (fun _=>?_)
  refine zM ?_
  have hN:M0 fu ⟨ac,kt⟩ (St.set ⟨0,[],ouX (mC (.box (cTr t)) ec vc kc mo ms fu ⟨ac,kt⟩) mo.length ou1⟩ (.o 0) (.cells (mC (.box (cTr t)) ec vc kc mo (ms+1) fu ⟨ac,kt⟩))).ou H1 nm1 ⟨.ev t e,mk,mo,ms+1,mh⟩ (.box (cTr t)) ec vc kc:=
   ⟨hids,rfl,hw.put (mc':=mC (.box (cTr t)) ec vc kc mo (ms+1) fu ⟨ac,kt⟩) (by simp[mC,hids,hei,hki,hac]) rfl rfl (fun _=>rfl)⟩
  have hrn:∀m',Q0d fu G.fns ⟨.ev t e,mk,mo,ms+1,mh⟩ t e=.ok m'->Q05 fu G.fns ⟨.ev t e,mk,mo,ms,mh⟩=.next m':=fun m' hx=>by rw[Q12 rfl hsf,hx];rfl
  have h12:t.op=12->∃m',Q0d fu G.fns ⟨.ev t e,mk,mo,ms+1,mh⟩ t e=.ok m':=fun h=>by
   have ho1:opdN t=1:=by unfold opdN;rw[if_pos (by omega)]
   unfold Q0d
   rw[if_neg (by omega),if_neg (by omega),if_neg (by omega),if_neg (by omega),if_neg (by omega)]
   unfold kidM
   rw[if_pos (show (Fm.mk t e []).done.length < opdN (Fm.mk t e []).t by simp[ho1])]
   exact⟨_,rfl⟩
  refine AOps.callP hΓ (hstart _ H1 nm1 _ t e ec vc kc kt hN he hKR hgm.c.1 hgm.c.2 hgm.k hkl holm ⟨by dsimp only;omega,by dsimp only;omega⟩ h12 fun m' hx hR=>hI.fr hR m' (hIn m' (hrn m' hx))) rfl rfl rfl rfl rfl rfl hN.w.ok ⟨trivial,trivial⟩ (fun ps ou2 hq how=>⟨how,?_⟩) fun r ou2 hq _ how=>?_
  ·obtain⟨c,hx,h1,h2⟩:=hq
   rw[hx]at hgo
   cases hgo
   exact⟨c,_,rfl,h1,h2⟩
  obtain⟨rfl,H',nm',m',hx,hmo,hM2⟩:=hq
  have hgm':gM G m':=Q3f hG hgm (hrn m' hx)
  have haf:=Q6u (fu:=fu) (fns:=G.fns) hx
  simp only at haf
  simp only[hx,rdOf]at hgo
  refine zA ?_
  exact cInv ⟨g,(ou2,H',nm',m'),_root_.id,by omega,⟨⟨hM2.ex⟩,hgm',hgo,⟨by dsimp only;omega,hnle m' (hrn m' hx)⟩,hIn m' (hrn m' hx),hnol m' (hrn m' hx)⟩,LessR.of rfl zFW (by simp) zLO rfl rfl how⟩
 |rt v ec vc hv=>
  have hvi:=hv.ids
  cases hKR with
  |nil=>
   have hr:Q05 fu G.fns ⟨.rt v,[],mo,ms,mh⟩=.done ⟨.rt v,[],mo,ms,mh⟩ v:=by simp[Q05]
   rw[hr]at hgo
   cases hgo
   refine zA ?_
   refine zS (AStep.neNil0 Tryz.underlying68 rfl rfl rfl) ?_
   refine zM ?_
   refine zS (AStep.neNil0 Tryz.underlying100 rfl rfl rfl) ?_
   refine zM ?_
   refine AFn.fin' rfl (WkF.ofEq rfl) (by simp) hou ⟨rfl,rfl,rfl,H1,nm1,⟨⟨kt,nilPE,ec,vc,nilPE,.rt _ ec vc hv,.nil,?_⟩⟩⟩
   rw[←hoX];exact h0
  |cons t e d k ec2 dc kc2 he hd hk=>
   have hei:=he.ids
   have hdi:=hd.ids
   have hk2i:=hk.ids
   have hgf:=hgm.k
   obtain⟨⟨g1,g2,g3,g4,gn⟩,g5⟩:=hgf
   have hdl:=hd.len
   rw[Q1t (f:=.mk t e d) (k:=k) rfl rfl]at hgo
   have hrn:∀m',kidM fu G.fns ⟨.rt v,.mk t e d::k,mo,ms,mh⟩ (.mk t e (d++[v])) k=.ok m'->Q05 fu G.fns ⟨.rt v,.mk t e d::k,mo,ms,mh⟩=.next m':=fun m' hx=>by rw[Q1t (f:=.mk t e d) (k:=k) rfl rfl];simp only[Fm.t_mk,Fm.e_mk,Fm.done_mk,hx];rfl
   have hopt:=hopn t g1
   have hD:VsR H1 nm1 (d++[v]) (dc++[[vc]]):=hd.snoc hv
   have hDi:=hD.ids
   have hcl:=Qbp hΓ dc (by omega) hdi hd.ones
   refine zA ?_
   refine zS (AStep.neNil0 Tryz.underlying68 rfl rfl rfl) ?_
   refine zM ?_
   refine zS (AStep.neNilBox Tryz.underlying100 rfl rfl rfl) ?_
   refine zM ?_
   refine zS (AStep.eqNil0 Tryz.underlying68 rfl rfl rfl) ?_
   refine zA ?_
   have hkd:=hkid (ouX (mC nilPE ec vc (.box [.box (cTr t),ec2,.sl 1 dc,kc2]) mo ms fu ⟨ac,kt⟩) mo.length ou1) H1 nm1 ⟨.rt v,.mk t e d::k,mo,ms,mh⟩ t e (d++[v]) k ec2 kc2 nilPE ec vc (.box [.box (cTr t),ec2,.sl 1 dc,kc2]) (dc++[[vc]]) kt (by rw[←hoX];exact h0) he hD hk g1 g2 (Q4k g3 ⟨hgm.c,trivial⟩) (by simp;omega) gn g5 (fun hR=>by have:=hkl hR;simp only[List.length_cons]at this;omega) holm ⟨hst.1,by dsimp only;omega⟩ (fun h12=>hpf v (.mk t e d) k rfl rfl h12) fun m' hx hR=>hI.fr hR m' (hIn m' (hrn m' hx))
   refine ACode.drawC2 tabOk 26 [13,19,24,25] [(18,.one (.sl 1 [[vc]]))] (fun vs σ=>match vs with
    |[]=>σ=⟨0,[],ouX (mC nilPE ec vc (.box [.box (cTr t),ec2,.sl 1 dc,kc2]) mo ms fu ⟨ac,kt⟩) mo.length ou1⟩
    |[a]=>∃ou2,Qdc dc (ouX (mC nilPE ec vc (.box [.box (cTr t),ec2,.sl 1 dc,kc2]) mo ms fu ⟨ac,kt⟩) mo.length ou1) a (ouX (mC nilPE ec vc (.box [.box (cTr t),ec2,.sl 1 dc,kc2]) mo ms fu ⟨ac,kt⟩) mo.length ou2)/\σ=⟨0,[],ouX (mC nilPE ec vc (.box [.box (cTr t),ec2,.sl 1 dc,kc2]) mo ms fu ⟨ac,kt⟩) mo.length ou2⟩
    |[a,b]=>b=.one (.sl 1 (dc++[[vc]]))/\σ=⟨1,[],ouX (mC nilPE ec vc (.box [.box (cTr t),ec2,.sl 1 dc,kc2]) mo ms fu ⟨ac,kt⟩) mo.length ou1⟩
    |[a,b,c]=>b=.one (.sl 1 (dc++[[vc]]))/\c=.agg [.box (cTr t),ec2,.sl 1 (dc++[[vc]]),kc2]/\σ=⟨1,[],ouX (mC nilPE ec vc (.box [.box (cTr t),ec2,.sl 1 dc,kc2]) mo ms fu ⟨ac,kt⟩) mo.length ou1⟩
    |[a,b,c,g]=>b=.one (.sl 1 (dc++[[vc]]))/\c=.agg [.box (cTr t),ec2,.sl 1 (dc++[[vc]]),kc2]/\g=.one (.box [.box (cTr t),ec2,.sl 1 (dc++[[vc]]),kc2])/\σ=⟨1,[],ouX (mC nilPE ec vc (.box [.box (cTr t),ec2,.sl 1 dc,kc2]) mo ms fu ⟨ac,kt⟩) mo.length ou1⟩
    |_=>False) follows (by kernel_rfl) rfl rfl (by decide) (by kernel_rfl) (by kernel_rfl) rfl rfl ?_ ?_ (by decide) ?_ ?_
   ·intro vs σ h
    match vs with
    |[]=>subst h;rfl
    |[_]=>obtain⟨_,_,rfl⟩:=h;rfl
    |[_,_]=>obtain⟨_,rfl⟩:=h;rfl
    |[_,_,_]=>obtain⟨_,_,rfl⟩:=h;rfl
    |[_,_,_,_]=>obtain⟨_,_,_,rfl⟩:=h;rfl
    |_::_::_::_::_::_=>exact h.elim
   ·intro vs σ h
    exact⟨⟨_,rfl,HStep.auto tabOk rfl⟩,trivial⟩
   ·intro vs σ h i o hi ho
    match vs with
    |[]=>
     subst h;cases hi;cases ho
     refine⟨rfl,.inl (.inr ⟨rfl,Q0y.call hΓ rfl rfl rfl rfl ⟨hdi,trivial⟩ hou (hcl _) fun r ou' hq hr ho=>?_⟩)⟩
     have e:ou'=ouX (mC nilPE ec vc (.box [.box (cTr t),ec2,.sl 1 dc,kc2]) mo ms fu ⟨ac,kt⟩) mo.length ou':=Q6n (by
      rcases hq with ⟨_,_,rfl⟩|⟨q,_,_,h1,h2⟩
      ·rfl
      ·rw[h2 0 (by rintro rfl;cases h1)];rfl)
     exact⟨ou',by rw[←e];exact hq,by rw[←e]⟩
    |[a]=>
     obtain⟨ou2,hq,rfl⟩:=h;cases hi;cases ho
     rcases hq with ⟨rfl,rfl,h1⟩|⟨q,rfl,h1,h2,h3⟩
     ·refine⟨rfl,.inl (.inl ⟨_,_,AStep.less (σ2:=⟨1,[],ouX (mC nilPE ec vc (.box [.box (cTr t),ec2,.sl 1 _,kc2]) mo ms fu ⟨ac,kt⟩) mo.length ou1⟩) (AStep.weakV (AStep.append tabOk rfl rfl rfl rfl rfl rfl (Base.nil _ _) (.sl 1 [[vc]]) rfl (by show (0+1) * 16<=140737488355328;decide) (by simp)) (.one (.gsE (by simp)))) rfl ?_,rfl,rfl⟩)⟩
      intro i o hi
      cases i with
      |l j=>cases hi
      |o j=>exact (congrFun h1 j).trans hi
     ·refine⟨rfl,.inl (.inl ⟨_,_,AStep.less (σ2:=⟨1,[],ouX (mC nilPE ec vc (.box [.box (cTr t),ec2,.sl 1 _,kc2]) mo ms fu ⟨ac,kt⟩) mo.length ou1⟩) (AStep.weakV (AStep.append tabOk rfl rfl rfl rfl rfl rfl (Base.gs' _ _ _ _ _ h1 rfl) (.sl 1 [[vc]]) rfl (by simp;show _ * 16<=_;omega) (by simp;omega)) (.one (.gsE (by simp)))) rfl ?_,rfl,rfl⟩)⟩
      intro i o hi
      cases i with
      |l j=>cases hi
      |o j=>
       have hjq:j≠q:=by rintro rfl;have h5:=hi;simp only[St.get]at h5;rw[h2]at h5;cases h5
       have h4:=h3 j hjq
       show (bif Nat.beq j q then some AObj.dead else _)=some o
       rw[Q08 hjq]
       exact h4.trans hi
    |[_,_]=>obtain⟨rfl,rfl⟩:=h;cases hi;cases ho;exact⟨rfl,.inl (.inl ⟨_,_,AStep.ofOp tabOk rfl,rfl,rfl,rfl⟩)⟩
    |[_,_,_]=>obtain⟨rfl,rfl,rfl⟩:=h;cases hi;cases ho;exact⟨rfl,.inl (.inl ⟨_,_,AStep.boxI rfl rfl,rfl,rfl,rfl,rfl⟩)⟩
    |_::_::_::_::_=>cases hi
   ·intro vs σ hl h
    match vs with
    |[a,_,_,_]=>
     obtain⟨rfl,rfl,rfl,rfl⟩:=h
     refine AOps.callP hΓ hkd rfl rfl rfl rfl rfl rfl hou ⟨trivial,⟨by simp,hei,hDi,hk2i,trivial⟩,trivial⟩ (fun ps ou2 hq how=>⟨how,?_⟩) fun r ou2 hq _ how=>?_
     ·obtain⟨c,hx,h1,h2⟩:=hq
      simp only[Fm.t_mk,Fm.e_mk,Fm.done_mk,hx,rdOf]at hgo
      cases hgo
      exact⟨c,_,rfl,h1,h2⟩
     obtain⟨rfl,H',nm',m',hx,hmo,hM2⟩:=hq
     have hgm':gM G m':=Q3f hG hgm (hrn m' hx)
     have haf:=(Q33 hx d v (.inl rfl)).ge
     simp only at haf
     simp only[Fm.t_mk,Fm.e_mk,Fm.done_mk,hx,rdOf]at hgo
     refine zA ?_
     exact cInv ⟨g,(ou2,H',nm',m'),_root_.id,by omega,⟨⟨hM2.ex⟩,hgm',hgo,⟨by dsimp only;omega,hnle m' (hrn m' hx)⟩,hIn m' (hrn m' hx),hnol m' (hrn m' hx)⟩,LessR.of rfl zFW (by simp) zLO rfl rfl how⟩
    |[]|[_]|[_,_]|[_,_,_]=>cases hl
    |_::_::_::_::_::_=>exact h.elim
end
end Go.Proofs.YtmdkenkhaicbeaaGreatDoor
namespace Go.Abs
theorem frOk_in{w:World}{C:Ctx}{args:List FV}{cargs:List Value}{N:Nat}(hr:RFs w C args cargs)(hlen:args.length<=N):FrOk w C N (argFr 0 args) (cargs.toArray++Array.replicate (N - cargs.toArray.size) undef):=by
 have hcl:cargs.length=args.length:=by
  have:∀(vs:List FV) (xs:List Value),RFs w C vs xs->xs.length=vs.length:=by
   intro vs
   induction vs with
   |nil=>intro xs h;simp only[RFs]at h;simp[h]
   |cons v vs ih=>intro xs h;simp only[RFs]at h;obtain⟨u,us,rfl,_,h2⟩:=h;simp[ih us h2]
  exact this _ _ hr
 refine⟨by simp;omega,fun k x hk=>?_⟩
 obtain⟨_,h2⟩:=Q3r args 0 k x hk
 simp only[Nat.sub_zero]at h2
 obtain⟨u,hu,hru⟩:=RFs.get hr h2
 refine⟨u,?_,hru⟩
 have hlt:k < cargs.length:=(List.getElem?_eq_some_iff.1 hu).1
 rw[Array.getElem?_append_left (by simpa using hlt)]
 simpa using hu
def Caught (P:Program)(T:Tab)(Γ:List (Nat×List AC))(fn:Func)(gd:Nat)(first caps:List AC)(Q:FV->Outer->Prop)(ps:List PanicEntry)(fr:Fr)(σ:St):Prop:=
 ∀(F:Nat->Prop) (w:World) (C:Ctx) (tmps:Array Value) (xs ys:List Value),Inv Γ F w C σ->FrOk w C fn.ntmps fr tmps->RV w C first xs->RV w C caps ys->CallsD P gd (xs++ys).toArray (.panicking ps) w fun e m' w'=>(∃v,e=.returned v)/\settle m'=.returning/\
  ∃C' fr' σ',Goes F isO w C w' C'/\Inv Γ F w' C' σ'/\FrOk w' C' fn.ntmps fr' tmps/\∀ds,Fin ⟨P,T,Γ,fn.ntmps,ds⟩ fn Q fr' σ'
theorem AFn.ofDeferP{P:Program}{T:Tab}{Γ:List (Nat×List AC)}{g gd i1 i2 d5 d6 d7 d8 gc:Nat}{fn:Func}{r0 c2 rest:Code}{o0 o1 p0 p1 p2:Oper}{args:List FV}{ou:Outer}{Q:FV->Outer->Prop}{fr1:Fr}{σ1:St}{first caps:List AC}{v0:FV}{us:List FV}{Q1:FV->Outer->Prop}{QP1:List PanicEntry->Outer->Prop}{tys:Array TypeId}{pargs:Array Operand}
  (hT : TabOk P T) (hΓ : ∀ g cs, (g, cs) ∈ Γ -> idsL isO cs) (hf : P.funcs[g]? = some fn) (hb : fn.body = some (.seq r0 (.seq (.region i1 #[o0, o1] false) (.seq (.seq (.region i2 #[p0, p1, p2] false) c2) rest)))) (hname : (fn.name == "runtime.NumGoroutine") = false)
  (hlen : args.length <= fn.ntmps) (h0 : OuOk ou -> ACode ⟨P, T, Γ, fn.ntmps, []⟩ r0 (fun e fr σ => e = .normal /\ fr = fr1 /\ σ = σ1) (argFr 0 args) ⟨0, [], ou⟩)
  (hg0 : o0.guard = none) (hd0 : o0.dst = some d5) (hdl : d5 < fn.ntmps) (hs0 : AStep ⟨P, T, Γ, fn.ntmps, []⟩ o0 fr1 σ1 (.one (.fn (.func gd) first caps)) σ1)
  (hg1 : o1.guard = none) (hd1 : o1.dst = none) (ho1 : o1.op = .defer { callee := .value (.tmp d5), args := #[], argTypes := #[] })
  (kg0 : p0.guard = none) (kd0 : p0.dst = some d6) (kl0 : d6 < fn.ntmps) (ks0 : ∀ ds, AStep ⟨P, T, Γ, fn.ntmps, ds⟩ p0 ((d5, .one (.fn (.func gd) first caps)) :: fr1) σ1 v0 σ1)
  (kg1 : p1.guard = none) (kd1 : p1.dst = some d7) (kl1 : d7 < fn.ntmps) {gop : Operand} (ko1 : p1.op = .call { callee := .value gop, args := pargs, argTypes := tys })
  (kf1 : aEval Γ ((d6, v0) :: (d5, .one (.fn (.func gd) first caps)) :: fr1) gop = some (.one (.fn (.func gc) [] []))) (ka1 : Q1l Γ ((d6, v0) :: (d5, .one (.fn (.func gd) first caps)) :: fr1) pargs.toList = some us) (ki1 : idsF isO us) (hou1 : OuOk ou -> OuOk σ1.ou)
  (kc1 : AFnP P Γ gc us σ1.ou Q1 QP1)
  (kg2 : p2.guard = none) (kd2 : p2.dst = some d8) (kl2 : d8 < fn.ntmps)
  (hnext : OuOk ou -> ∀ r ou', Q1 r ou' -> r.ids isO -> OuOk ou' -> ∃ v2, ∀ ds, AStep ⟨P, T, Γ, fn.ntmps, ds⟩ p2 ((d7, r) :: (d6, v0) :: (d5, .one (.fn (.func gd) first caps)) :: fr1) { σ1 with ou := ou' } v2 { σ1 with ou := ou' } /\
   ACode ⟨P,T,Γ,fn.ntmps,ds⟩ c2 (Q02 ⟨P,T,Γ,fn.ntmps,ds⟩ (Fin ⟨P,T,Γ,fn.ntmps,ds⟩ fn Q) [.code rest]) ((d8,v2)::(d7,r)::(d6,v0)::(d5,.one (.fn (.func gd) first caps))::fr1) { σ1 with ou:=ou' })
  (hdef:∀(us:Array Value) (w:World),(callFunc gd us).run P w=.ok (.enter gd us) w/\(us.size=first.length+caps.length->CallsD P gd us .returning w fun e u' w'=>(∃v,e=.returned v)/\u'=.returning/\w'=w))
  (hcatch:OuOk ou->∀ps ou',QP1 ps ou'->OuOk ou'->Caught P T Γ fn gd first caps Q ps ((d6,v0)::(d5,.one (.fn (.func gd) first caps))::fr1) { σ1 with ou:=ou' }):AFn P Γ g args ou Q:=by
 refine⟨fun vs0 w=>?_,fun F w C cargs h0' hi hr=>?_⟩
 ·simp[callFunc,hf,hb]
  simpa using hname
 ·refine calls_of_wp_defers hf hb ?_
  have hfr:=frOk_in hr hlen
  have hou:=OuOk.of_inv hi h0'
  refine wp_seq (wp_mono (h0 hou F w C w C _ (Goes.refl _ _ _ _) hi hfr) fun e a w1 hp=>?_)
  obtain⟨hda,fr',σ',C1,hg1',hi1,hf1,rfl,rfl,rfl⟩:=hp
  have ha:a=⟨a.tmps,[]⟩:=by cases a;simp_all
  rw[ha]
  refine wp_seq (wp_region_lit (l:=[o0,o1]) ?_)
  refine wpList_plain hg0 fun N' hN=>hs0 F w1 C1 a.tmps hi1 hf1 N' _ fun u w2 C2 hgo2 hi2 hr2=>?_
  refine hN _ _ ?_
  have hf2:FrOk w2 C2 fn.ntmps ((d5,.one (.fn (.func gd) first caps))::fr') (Act.put ⟨a.tmps,[]⟩ o0.dst u).tmps:=by
   have:=Q13 (ds:=[]) (dst:=some d5) (hf1.ext hgo2.chg) (by simp[dstOk,Nat.blt];omega) hr2
   rw[hd0];exact this
  rw[Q1p]
  generalize hat:(Act.put ⟨a.tmps,[]⟩ o0.dst u).tmps=tm2 at hf2
  refine wpList_plain hg1 fun N2 hN2=>?_
  obtain⟨u5,hu5,hr5⟩:=hf2.2 d5 (.one (.fn (.func gd) first caps)) (by simp[Fr.get])
  simp only[RF,R]at hr5
  obtain⟨xs,ys,rfl,hx,hy⟩:=hr5
  have hev:Act.eval ⟨tm2,[]⟩ (.tmp d5)=.func (.func gd) xs.toArray ys.toArray:=by
   simp[Act.eval,hu5]
  have hrun:(execOp (Act.eval ⟨tm2,[]⟩) o1).run P w2=.ok (.defer ⟨.fn (.func gd) ys.toArray,xs.toArray⟩) w2:=by
   unfold execOp
   simp only[ho1,resolve,Sem.run_bind,hev,Deferred.ofValue,Sem.run_pure,Result.andThen_ok]
   simp
  unfold Oper.wp
  rw[hrun,Oper.upon_defer]
  refine hN2 _ _ ?_
  rw[hd1]
  show Code.wp P _ _ ⟨tm2,[⟨.fn (.func gd) ys.toArray,xs.toArray⟩]⟩ w2
  obtain⟨D,hD⟩:∃D:List Deferred,D=[⟨.fn (.func gd) ys.toArray,xs.toArray⟩]:=⟨_,rfl⟩
  rw[←hD]
  -- the region with the call
  refine wp_seq (wp_seq (wp_region_lit (l:=[p0,p1,p2]) ?_))
  refine wpList_plain kg0 fun N3 hN3=>ks0 D F w2 C2 tm2 hi2 hf2 N3 _ fun u3 w3 C3 hgo3 hi3 hr3=>?_
  refine hN3 _ _ ?_
  have hf3:FrOk w3 C3 fn.ntmps ((d6,v0)::(d5,.one (.fn (.func gd) first caps))::fr') (Act.put ⟨tm2,D⟩ p0.dst u3).tmps:=by
   have:=Q13 (ds:=D) (dst:=some d6) (hf2.ext hgo3.chg) (by simp[dstOk,Nat.blt];omega) hr3
   rw[kd0];exact this
  rw[Q1p]
  generalize hat3:(Act.put ⟨tm2,D⟩ p0.dst u3).tmps=tm3 at hf3
  refine wpList_plain kg1 fun N4 hN4=>?_
  have hcallee:=Q00 (a:=⟨tm3,D⟩) hi3 hf3 kf1
  simp only[RF,R]at hcallee
  obtain⟨cx,cy,hfv,hcx,hcy⟩:=hcallee
  simp only[RV]at hcx hcy
  subst hcx;subst hcy
  have hvs:=Q1g (a:=⟨tm3,D⟩) hi3 hf3 ka1
  have hrun4:(execOp (Act.eval ⟨tm3,D⟩) p1).run P w3=.ok (.enter gc (pargs.toList.map (Act.eval ⟨tm3,D⟩)).toArray) w3:=by
   unfold execOp
   simp only[ko1,resolve,Sem.run_bind,hfv,Deferred.ofValue,Sem.run_pure,Result.andThen_ok,invoke,kc1.1]
   congr 2
   apply Array.ext'
   simp
  unfold Oper.wp
  rw[hrun4,Oper.upon_enter]
  have hc1:Chg isO w3 C3 w3 { C3 with nl:=0 }:=⟨fun _ _=>rfl,fun _ h=>h,fun i hp ho=>⟨by cases i with|l k=>cases hp|o k=>exact ho,rfl,rfl⟩⟩
  have hgAll:Goes F isO w C w3 C3:=(hg1'.trans hgo2.toO).trans hgo3.toO
  have hxs:xs.length=first.length:=RV.len hx
  have hys:ys.length=caps.length:=RV.len hy
  have fin:∀(a3:Act) (wz:World) (frz:Fr) (σz:St) (Cz:Ctx),a3.defers=D->Goes F isO w C wz Cz->Inv Γ F wz Cz σz->FrOk wz Cz fn.ntmps frz a3.tmps->Fin ⟨P,T,Γ,fn.ntmps,D⟩ fn Q frz σz->Leaves P fn a3.tmps (fun e w'=>∃v r ou' C',e=.returned v/\Goes F isO w C w' C'/\C'.nl=0/\Inv Γ F w' C' ⟨0,[],ou'⟩/\RF w' C' r v/\Q r ou') a3.defers .returning wz:=fun a3 wz frz σz Cz hd3 hgz hiz hfz hfin=>by
   obtain⟨v,hv,hR⟩:=Q73 hT h0' hi hgz hiz hfz hfin
   rw[hd3,hD]
   refine⟨by simp,.func gd,ys.toArray,gd,xs.toArray++ys.toArray,rfl,?_,((hdef _ wz).2 (by simp[hxs,hys])).mono ?_⟩
   ·show (invoke (.fn (.func gd) ys.toArray) xs.toArray).run P wz=_
    simp only[invoke]
    exact (hdef _ wz).1
   ·rintro e u' w' ⟨⟨v',rfl⟩,rfl,rfl⟩
    exact⟨v,hv,hR⟩
  refine (kc1.2 (Q27 w3 C3 σ'.ou) w3 { C3 with nl:=0 } _ rfl (hi3.forCallee (hou1 hou) hΓ) (RFs.chg hc1 _ _ ki1 hvs)).mono fun e w4 hh=>?_
  rcases hh with ⟨v,r,ou',C',rfl,hgo,h04,hi',hr4,hQ⟩|⟨ps,ou',C',rfl,hgo,h04,hi',hQ⟩
  ·obtain⟨hb1,hb2,hb3⟩:=hi3.back hgo h04 hi'
   refine hN4 _ _ ?_
   have hrid:r.ids isO:=FV.ids_mono (Q3h h04) r (RF.idsOk r v hr4)
   obtain⟨v2,hv2⟩:=hnext hou r ou' hQ hrid (OuOk.of_inv hi' h04)
   obtain⟨hst2,hrest⟩:=hv2 D
   have hf4:FrOk w4 (C3.behind C') fn.ntmps ((d7,r)::(d6,v0)::(d5,.one (.fn (.func gd) first caps))::fr') (Act.put ⟨tm3,D⟩ p1.dst v).tmps:=by
    have:=Q13 (ds:=D) (dst:=some d7) (hf3.ext hb1.chg) (by simp[dstOk,Nat.blt];omega) (RF.chg hb3 r v hrid hr4)
    rw[kd1];exact this
   rw[Q1p]
   generalize hat4:(Act.put ⟨tm3,D⟩ p1.dst v).tmps=tm4 at hf4
   refine wpList_plain kg2 fun N5 hN5=>hst2 F w4 _ tm4 hb2 hf4 N5 _ fun u5 w5 C5 hgo5 hi5 hr5=>?_
   refine hN5 _ _ ?_
   have hf5:FrOk w5 C5 fn.ntmps ((d8,v2)::(d7,r)::(d6,v0)::(d5,.one (.fn (.func gd) first caps))::fr') (Act.put ⟨tm4,D⟩ p2.dst u5).tmps:=by
    have:=Q13 (ds:=D) (dst:=some d8) (hf4.ext hgo5.chg) (by simp[dstOk,Nat.blt];omega) hr5
    rw[kd2];exact this
   rw[Q1p]
   generalize hat5:(Act.put ⟨tm4,D⟩ p2.dst u5).tmps=tm5 at hf5
   show c2.wp P _ ⟨tm5,D⟩ w5
   refine wp_mono (hrest F w C w5 C5 tm5 ((hgAll.trans hb1.toO).trans hgo5.toO) hi5 hf5) fun e a3 w6 hp=>?_
   obtain⟨hd3,fr3,σ3,C6,hg6,hi6,hf6,hk⟩:=hp
   cases e with
   |normal=>
    have hk:ACode ⟨P,T,Γ,fn.ntmps,D⟩ rest (Q02 ⟨P,T,Γ,fn.ntmps,D⟩ (Fin ⟨P,T,Γ,fn.ntmps,D⟩ fn Q) []) fr3 σ3:=hk
    have ha3:a3=⟨a3.tmps,D⟩:=by
     obtain⟨t3,d3⟩:=a3
     have h:d3=D:=hd3
     rw[h]
    show rest.wp P _ a3 w6
    rw[ha3]
    refine wp_mono (hk F w C w6 C6 a3.tmps hg6 hi6 hf6) fun e a4 w7 hp=>?_
    obtain⟨hd4,fr4,σ4,C7,hg7,hi7,hf7,hk7⟩:=hp
    cases e with
    |normal=>exact fin a4 w7 fr4 σ4 C7 hd4 hg7 hi7 hf7 hk7
    |ret=>exact fin a4 w7 fr4 σ4 C7 hd4 hg7 hi7 hf7 hk7
    |panic ps=>exact hk7.elim
    |exit id=>exact hk7.elim
    |goto l=>exact hk7.elim
    |outgrown=>exact hk7.elim
   |ret=>exact fin a3 w6 fr3 σ3 C6 hd3 hg6 hi6 hf6 hk
   |panic ps=>exact hk.elim
   |exit id=>exact hk.elim
   |goto l=>exact hk.elim
   |outgrown=>exact hk.elim
  ·obtain⟨hb1,hb2,hb3⟩:=hi3.back hgo h04 hi'
   show Leaves P fn tm3 _ D (.panicking ps) w4
   have hx4:RV w4 (C3.behind C') first xs:=(hx.ext hgo3.chg).ext hb1.chg
   have hy4:RV w4 (C3.behind C') caps ys:=(hy.ext hgo3.chg).ext hb1.chg
   have hcd:=hcatch hou ps ou' hQ (OuOk.of_inv hi' h04) F w4 (C3.behind C') tm3 xs ys hb2 (hf3.ext hb1.chg) hx4 hy4
   rw[hD]
   refine⟨by simp,.func gd,ys.toArray,gd,xs.toArray++ys.toArray,rfl,?_,?_⟩
   ·show (invoke (.fn (.func gd) ys.toArray) xs.toArray).run P w4=_
    simp only[invoke]
    exact (hdef _ w4).1
   ·rw[show xs.toArray++ys.toArray=(xs++ys).toArray by simp]
    refine hcd.mono ?_
    rintro e m' w' ⟨⟨v',rfl⟩,hm,C7,fr7,σ7,k1,k2,k3,k4⟩
    obtain⟨v,hv,hR⟩:=Q73 (ds:=D) hT h0' hi ((hgAll.trans hb1.toO).trans k1) k2 k3 (k4 D)
    show Leaves P fn tm3 _ [] (settle m') w'
    rw[hm]
    exact⟨v,hv,hR⟩
end Go.Abs
