/- Which trees are of the evaluator's simple form; R.A, slices.Equal at ints, R.Loop; EvalLoop, walked. -/
import Derived.Test.YtdpdlkgecmgokaaGreatDoorG9
import Derived.KernelRfl
import Derived.Test.YtdpdlkgecmgokaaGreatDoorRows
import Derived.Lib.LaidTab
set_option maxRecDepth 10000
set_option linter.unusedVariables false
set_option linter.unusedSimpArgs false
namespace Go.Proofs.YtdpdlkgecmgokaaGreatDoor
open Go Go.Abs Go.CoreX
variable {Γ:List (Nat×List AC)}
theorem A_ok(op:Int)(al:List Alt)(ks:List Tr):APure Tryz.prog Γ 60 [.one (int op),.one (.sl 2 (al.map cAlt)),.one (.sl 1 (Q26 ks))] (.one (.box (cNd (.mk op 0 [] ks al)))):=by
 intro ou
 refine AFn.walk 13 tabOk Tryz.func60 rfl (by kernel_rfl) rfl rfl fun hou=>?_
 iterate 14 (first|((with_reducible refine oj ?_);refine zau ?_)|(with_reducible refine zst ?_)|((with_reducible refine Q0g ?_ ?_);rfl)|(with_reducible refine ok ?_;first|refine ACode.condT rfl ?_|refine ACode.condF rfl ?_))
 refine AOps.freeze1 (.l 0) 6 rfl rfl ?_
 refine zA ?_
 refine APure.fin rfl (.one (Wk.box ?_)) (by simp) hou rfl
 exact .cons (.refl _) (.cons (.refl _) (.cons (.nilS 1) (.cons (.any _) (.cons (.refl _) (.cons (.refl _) .nil)))))
theorem Qgq(hΓ:∀g cs,(g,cs)∈Γ->idsL isO cs)(l:List Int)(hl:l.length<=1048576):APure Tryz.prog Γ 41 [.one (.sl 1 (l.map cI)),.one (.sl 1 (l.map cI))] (.one (.lit (.bool true))):=by
 intro ou
 refine AFn.walk 26 tabOk Tryz.func41 rfl (by kernel_rfl) rfl rfl fun hou=>?_
 refine zA ?_
 refine ACode.cond rfl (fun hb=>absurd hb (by simp)) (fun _=>?_)
 refine zA ?_
 refine ACode.loopR hΓ (α:=Nat) (fun i=>[(13,.one (int i)),(12,.one (int (l.map cI).length)),(1,.one (.sl 1 (l.map cI))),(0,.one (.sl 1 (l.map cI)))]) (fun i=>⟨0,[],ou⟩) (fun m i=>i<=l.length/\m=l.length - i) (a0:=0) (ρ:=_root_.id) ⟨by omega,rfl⟩ (LessR.of rfl zFW (by simp) zLO rfl rfl hou) fun m i hi=>?_
 obtain⟨hil,rfl⟩:=hi
 refine zA ?_
 refine ACode.cond rfl (fun hb=>?_) (fun hb=>?_)
 ·have hlt:i < l.length:=by simpa using hb
  clear hb
  obtain⟨x,hx⟩:=Q01 hlt
  refine zA ?_
  refine ACode.drawX tabOk 8 [(2,.one (.box [int x])),(6,.one (.box [int x]))] follows (by kernel_rfl) rfl rfl rfl rfl ?_ ?_
  ·exact⟨⟨_,rfl,zIA rfl rfl rfl (by omega) (Q04 hx)⟩,⟨_,rfl,zIA rfl rfl rfl (by omega) (Q04 hx)⟩,trivial⟩
  refine zA ?_
  refine ACode.cond rfl (fun hb=>absurd hb (by simp)) (fun _=>?_)
  refine zM ?_
  exact cInv ⟨l.length - (i+1),i+1,_root_.id,by omega,⟨by omega,rfl⟩,LessR.of rfl zFW (by simp) zLO rfl rfl hou⟩
 ·refine zA ?_
  exact APure.fin rfl (WkF.ofEq rfl) (by simp) hou rfl
theorem Qci(n:Int):okT (loopT n):=by simp[loopT,loopF,loopB,tV,tW,okT,okTs]
theorem Qdc(n:Int):cntN (loopT n)=18:=by simp[loopT,loopF,loopB,tV,tW,cntN,cntNs]
theorem Qif(hΓ:∀g cs,(g,cs)∈Γ->idsL isO cs)(n:Int):APure Tryz.prog Γ 40 [.one (int n)] (.one (.sl 5 ((listT [] (loopT n)).map cEx))):=by
 have hL:=Qbz hΓ (loopT n) (Qci n) (by have:=Q1k (loopT n) [];rw[Qdc]at this;simp at this;omega)
 intro ou
 refine AFn.walk 44 tabOk Tryz.func40 rfl (by kernel_rfl) rfl rfl fun hou=>?_
 refine zA ?_
 refine zca hΓ (V_ok hΓ 2) hou ?_
 refine zca hΓ (W_ok hΓ 1) hou ?_
 refine zA ?_
 refine zca hΓ (N_ok (Γ:=Γ) 8 5 [tV 2,tW 1]) hou ?_
 refine zA ?_
 refine zca hΓ (V_ok hΓ 1) hou ?_
 refine zca hΓ (V_ok hΓ 2) hou ?_
 refine zca hΓ (W_ok hΓ 1) hou ?_
 refine zA ?_
 refine zca hΓ (N_ok (Γ:=Γ) 8 1 [tV 2,tW 1]) hou ?_
 refine zA ?_
 refine zca hΓ (N_ok (Γ:=Γ) 3 0 [tV 1,.mk 8 1 [] [tV 2,tW 1] []]) hou ?_
 refine zA ?_
 refine AOps.wk 20 rfl (y:=.one (.sl 2 [[int 1,.sl 1 []],[int (-1),.sl 1 []]])) (.one (Wk.sl (.cons (.cons (.refl _) (.cons (.nilS 1) .nil)) (.cons (.cons (.refl _) (.cons (.nilS 1) .nil)) .nil)))) ?_
 refine zca hΓ (W_ok hΓ 0) hou ?_
 refine zca hΓ (V_ok hΓ 2) hou ?_
 refine zA ?_
 refine zca hΓ (N_ok (Γ:=Γ) 8 0 [tV 2,.mk 3 0 [] [tV 1,.mk 8 1 [] [tV 2,tW 1] []] []]) hou ?_
 refine zA ?_
 refine zca hΓ (A_ok (Γ:=Γ) 7 [⟨1,[]⟩,⟨-1,[]⟩] [.mk 8 5 [] [tV 2,tW 1] [],tW 0,.mk 8 0 [] [tV 2,.mk 3 0 [] [tV 1,.mk 8 1 [] [tV 2,tW 1] []] []] []]) hou ?_
 refine zA ?_
 refine zca hΓ (B_ok (Γ:=Γ) 2 [2] [loopB]) hou ?_
 refine zA ?_
 refine zca hΓ (V_ok hΓ 1) hou ?_
 refine zA ?_
 refine zca hΓ (W_ok hΓ n) hou ?_
 refine zA ?_
 refine zca hΓ (N_ok (Γ:=Γ) 3 0 [tV 1,tW n]) hou ?_
 refine zca hΓ (Qid hΓ (.mk 3 0 [] [tV 1,tW n] [])) hou ?_
 refine zA ?_
 refine zca hΓ (B_ok (Γ:=Γ) 5 [1] [loopF,.mk 8 7 [] [.mk 3 0 [] [tV 1,tW n] []] []]) hou ?_
 refine zca hΓ hL hou ?_
 refine zA ?_
 exact APure.fin rfl (WkF.ofEq rfl) (by simp) hou rfl
theorem slot_ok{g:Int}{l:List (List AC)}{n:Nat}{y:AC}(hl:l[n]?=some [y])(hy:y.ids isO):APure Tryz.prog Γ 86 [.one (iB tCap [int g,.sl 1 l]),.one (int n)] (.one y):=by
 have hlt:n < l.length:=(List.getElem?_eq_some_iff.1 hl).1
 intro ou
 refine AFn.walk 32 tabOk Tryz.func86 rfl (by kernel_rfl) rfl rfl fun hou=>?_
 refine zA ?_
 refine zS (AStep.assertYes Q7c rfl rfl) ?_
 refine zM ?_
 refine ACode.cond rfl (fun hb=>absurd hb (by simp;omega)) (fun _=>?_)
 refine zA ?_
 refine zS (zIA rfl rfl rfl (by omega) hl) ?_
 refine zA ?_
 exact APure.fin rfl (WkF.ofEq rfl) hy hou rfl
section
variable {fu:Int}{fc:FcT}{fns:List Fun}{ou:Outer}{H:Hm}{nm:Nm2}{m m1:Ms}{v:Vl}{tc ec vc kc:AC}{t:Tr}{e:En}{d:List Vl}{k:List Fm}{dc:List (List AC)}{tc0 ec0 vc0 kc0:AC}
theorem Qhk(hΓ:∀g cs,(g,cs)∈Γ->idsL isO cs)(h0:M0 fu fc ou H nm m tc0 ec0 vc0 kc0)(hfc:fc.ids isO)(he:ER H nm e ec){g:Int}{sl:List Vl}{c:AC}(hd:VR H nm (.cap g sl) c)(hk:KR H nm k kc)(hkl:t.kids.length=1)(h16:t.op=16){n:Nat}(hn:t.n=(n:Int))(hv:sl[n]?=some v):
  AFn Tryz.prog Γ 69 [.one (.ptr (.o 0) 0),.one (.box [.box (cTr t),ec,.sl 1 [[c]],kc])] ou (StQ fu fc H nm (.ok { m with c:=.rt v,k:=k })):=by
 have hN:=Q5d h0 hk hfc
 have hei:=he.ids
 have hdi:=hd.ids
 have hki:=hk.ids
 have hw:=hN.w
 have hoX:=h0.ouX
 rw[hoX]
 generalize hmc:ou=ou0 at hN hw
 clear hoX
 obtain⟨g',sl',l,e1,rfl,hsl⟩:∃g' sl' l,Vl.cap g sl=.cap g' sl'/\c=iB tCap [int g',.sl 1 l]/\VsR H nm sl' l:=by
  rcases hd.isCap with ⟨n,fs,cs,h1,h2,h3⟩|⟨h1,_⟩
  ·exact⟨n,fs,cs,h1,h2,h3⟩
  ·exact absurd rfl (h1 g sl)
 cases e1
 obtain⟨y,hy,hvy⟩:=hsl.get hv
 have hyi:=hvy.ids
 have hll:=hsl.len
 obtain⟨o,tn,b,ks,al⟩:=t
 simp only[Tr.op,Tr.n,Tr.kids]at h16 hn hkl
 subst h16;subst hn
 have hop:opdN (.mk 16 (n:Int) b ks al)=1:=by show ks.length=1;exact hkl
 have hs:=slot_ok (Γ:=Γ) (g:=g) hy hyi
 refine AFn.walk 262 tabOk Tryz.func69 rfl (by kernel_rfl) rfl rfl fun hou=>?_
 refine zA ?_
 refine ACode.drawX tabOk 10 [(9,.one (int (opdN (.mk 16 (n:Int) b ks al))))] follows (by kernel_rfl) rfl rfl rfl rfl ?_ ?_
 ·exact⟨⟨_,rfl,AStep.callPure hΓ rfl rfl rfl (by simp[idsF]) hou (Q3k _)⟩,trivial⟩
 refine zA ?_
 refine ACode.cond rfl (fun hb=>absurd hb (by simp[hop])) (fun hb=>?_)
 refine zA ?_
 refine ACode.stEq (σ':=⟨0,[],ouX (mC tc0 ec0 vc0 kc m.out m.steps fu fc) m.out.length ou0⟩) (setX _ _ _ _) ?_
 refine zA ?_
 refine ACode.drawCS tabOk 19 15 16 17 18 (.one (.ptr (.o 0) 0)) (.one (.ptr (.o 0) 0)) [(6,.one (.box [iB tCap [int g,.sl 1 l]]))]
  (fun r σ=>r=.one y/\σ=⟨0,[],ouX (mC tc0 ec0 vc0 kc m.out m.steps fu fc) m.out.length ou0⟩)
  (fun r σ=>r=.one y/\σ=⟨0,[],ouX (mC nilPE ec0 vc0 kc m.out m.steps fu fc) m.out.length ou0⟩)
  follows (by kernel_rfl) rfl rfl (by decide) (by kernel_rfl) (by kernel_rfl) rfl rfl rfl rfl rfl rfl rfl ?_ ?_ ?_ ?_ ?_ ?_ ?_ ?_ ?_ ?_
 ·rintro r σ ⟨rfl,rfl⟩;rfl
 ·rintro r σ ⟨rfl,rfl⟩;rfl
 ·exact⟨⟨_,rfl,zIA rfl rfl rfl (by decide) rfl⟩,trivial⟩
 ·rintro r σ ⟨rfl,rfl⟩
  exact⟨⟨_,rfl,zIA rfl rfl rfl (by decide) rfl⟩,trivial⟩
 ·rintro r σ ⟨rfl,rfl⟩
  exact⟨⟨_,rfl,zIA rfl rfl rfl (by decide) rfl⟩,trivial⟩
 ·refine Q2w.ofR (Q0k.call hΓ rfl rfl rfl rfl ⟨hdi,trivial,trivial⟩ hw.ok (hs _) fun r ou' hq hr ho=>?_)
  obtain⟨rfl,rfl⟩:=hq
  exact⟨rfl,rfl⟩
 ·rintro r σ ⟨rfl,rfl⟩;exact AStep.ofOp tabOk rfl
 ·rintro r σ ⟨rfl,rfl⟩;exact AStep.ofOp tabOk rfl
 ·rintro r σ ⟨rfl,rfl⟩;exact⟨_,⟨rfl,setX _ _ _ _⟩,AStep.ofStore tabOk rfl⟩
 ·rintro r σ ⟨rfl,rfl⟩
  refine zA ?_
  exact StQ.fin rfl rfl (.refl _ _) (MR.ofRt hw hvy hk h0.ids.2.1 hfc rfl rfl (fun _=>rfl))
theorem Qhm(hΓ:∀g cs,(g,cs)∈Γ->idsL isO cs)(h0:M0 fu fc ou H nm m tc0 ec0 vc0 kc0)(hfc:fc.ids isO)(he:ER H nm e ec)(hd:VsR H nm d dc)(hk:KR H nm k kc)(hl:d.length=t.kids.length)(h15:t.op=15):
  AFn Tryz.prog Γ 69 [.one (.ptr (.o 0) 0),.one (.box [.box (cTr t),ec,.sl 1 dc,kc])] ou (StQ fu fc H nm (.ok { m with c:=.rt (.cap t.n d),k:=k })):=by
 have hN:=Q5d h0 hk hfc
 have hei:=he.ids
 have hdi:=hd.ids
 have hki:=hk.ids
 have hdl:=hd.len
 have hw:=hN.w
 have hoX:=h0.ouX
 rw[hoX]
 generalize hmc:ou=ou0 at hN hw
 clear hoX
 obtain⟨o,n,b,ks,al⟩:=t
 simp only[Tr.op,Tr.kids]at h15 hl
 subst h15
 have hop:opdN (.mk 15 n b ks al)=ks.length:=rfl
 refine AFn.walk 262 tabOk Tryz.func69 rfl (by kernel_rfl) rfl rfl fun hou=>?_
 refine zA ?_
 refine ACode.drawX tabOk 10 [(9,.one (int (opdN (.mk 15 n b ks al))))] follows (by kernel_rfl) rfl rfl rfl rfl ?_ ?_
 ·exact⟨⟨_,rfl,AStep.callPure hΓ rfl rfl rfl (by simp[idsF]) hou (Q3k _)⟩,trivial⟩
 refine zA ?_
 refine ACode.cond rfl (fun hb=>absurd hb (by simp[hop,hdl,hl])) (fun hb=>?_)
 refine zA ?_
 refine ACode.stEq (σ':=⟨0,[],ouX (mC tc0 ec0 vc0 kc m.out m.steps fu fc) m.out.length ou0⟩) (setX _ _ _ _) ?_
 refine zA ?_
 refine ACode.drawSt tabOk 19 18 [(14,.one (.box [int n,.sl 1 dc])),(15,.one (iB tCap [int n,.sl 1 dc]))] _ follows (by kernel_rfl) rfl rfl (by kernel_rfl) rfl ?_ rfl rfl rfl rfl ?_ ?_ (AStep.ofStore tabOk rfl) ?_
 ·rfl
 ·exact⟨⟨_,rfl,AStep.boxI rfl rfl⟩,⟨_,rfl,AStep.mkIfc Q7c rfl rfl⟩,trivial⟩
 ·exact⟨⟨_,rfl,AStep.boxI rfl rfl⟩,⟨_,rfl,AStep.mkIfc Q7c rfl rfl⟩,trivial⟩
 refine zA ?_
 exact StQ.fin rfl rfl (.refl _ _) (MR.ofRt hw (.cap n d dc hd) hk h0.ids.2.1 hfc rfl rfl (fun _=>rfl))
end
abbrev VA:={c:AC // c.ids isO}
def cV (v:VA):List AC:=[v.1]
theorem Qfp{p:Abs.Id->Prop}(hp:∀i,isO i->p i)(l:List VA):idsS p (l.map cV):=Q1l (f:=cV) (fun v=>⟨AC.ids_mono hp v.1 v.2,trivial⟩) l
theorem Q5h(k:Nat):∀i,isO i->inL k i:=fun i hi=>by cases i with|l k=>exact hi.elim|o k=>trivial
@[simp] theorem ids_cV_l (k:Nat) (l:List VA):idsS (inL k) (l.map cV):=Qfp (Q5h k) _
@[simp] theorem Qhp (l:List VA):idsS isO (l.map cV):=Qfp (fun _ h=>h) _
def GrwQV (ou:Outer)(r:FV)(ou':Outer):Prop:=
 (r=.one (.lit (.slice none 0 0))/\ou'=ou)∨∃k cap,ou k=none/\r=.one (.arr (.o k) 1 0 0 cap)/\ou'=updO ou k (.cells (vec 1 [] cap))
theorem Qgo(n:Nat)(hn:n<=1048576)(ou:Outer):AFn Tryz.prog Γ 115 [.one (.lit (.slice none 0 0)),.one (int n)] ou (GrwQV ou):=by
 refine AFn.walk 27 tabOk Tryz.func115 rfl (by kernel_rfl) rfl rfl fun hou=>?_
 refine zA ?_
 refine zS (AStep.capNil tabOk rfl rfl rfl rfl) ?_
 refine zM ?_
 refine ACode.cond rfl (fun hb=>?_) (fun hb=>?_)
 ·have hn0:0 < n:=by simp at hb;omega
  refine zA ?_
  refine zS (AStep.capNil tabOk rfl rfl rfl rfl) ?_
  refine zA ?_
  refine zS (AStep.sliceNilTo tabOk rfl rfl rfl rfl rfl rfl) ?_
  refine zA ?_
  refine AOps.wk 21 rfl (y:=.one (int n)) (.ofEq (by simp)) ?_
  refine AOps.stepR rfl rfl rfl (Q0k.appZeros0 (m:=n) (s:=1) tabOk rfl rfl rfl rfl rfl Tryz.underlying3 rfl rfl hn0 (by show _ * 16<=_;omega) (by omega)) ?_
  rintro v σ' ⟨cap,hcap,rfl,rfl⟩
  refine zA ?_
  refine zS (AStep.sliceOwn (a:=0) (b:=0) (c:=cap) tabOk rfl rfl rfl rfl rfl rfl rfl ⟨.i64,rfl⟩ rfl (fun h=>by cases h) (by omega) (by omega) (by omega)) ?_
  rw[show (AC.arr (.l 0) 1 (if cap=0 then 0 else 0) (0 - 0) (cap - 0))=.arr (.l 0) 1 0 0 cap by simp]
  refine AOps.cede 0 (show 0 < 1 by omega) fun k hk=>⟨[(25,.one (.arr (.o k) 1 0 0 cap))],⟨1,[],updO ou k (.cells (vec 1 [] cap))⟩,⟨CedFr.get (.cons rfl rfl .nil),rfl,fun i x hx=>?_⟩,?_⟩
  ·have hk:ou k=none:=hk
   cases i with
   |l m=>cases hx
   |o m=>
    have hx':updO ou k (.cells (vec 1 [] cap)) m=some x:=hx
    by_cases e:k=m
    ·subst e;rw[Q08]at hx';cases hx'
     exact⟨.l 0,_,rfl,rfl,(AObj.sub_o _ (Q32 _ (by simp))).symm⟩
    ·rw[Q0i _ e]at hx'
     exact⟨.o m,x,hx',rfl,(AObj.sub_o x (hou m x hx')).symm⟩
  refine zA ?_
  exact AFn.fin' rfl (.refl _) (by simp) (updO_ok hou (Q32 _ (by simp))) (.inr ⟨k,cap,hk,rfl,rfl⟩)
 ·refine zA ?_
  exact AFn.fin' rfl (.refl _) (by simp) hou (.inl ⟨rfl,rfl⟩)
def cLV (l:List VA):List AC:=[.sl 1 (l.map cV)]
theorem Qfq{p:Abs.Id->Prop}(hp:∀i,isO i->p i)(ll:List (List VA)):idsS p (ll.map cLV):=Q1l (f:=cLV) (fun l=>⟨Qfp hp l,trivial⟩) ll
@[simp] theorem ids_cL_lV (k:Nat) (ll:List (List VA)):idsS (inL k) (ll.map cLV):=Qfq (Q5h k) ll
@[simp] theorem ids_cL_oV (ll:List (List VA)):idsS isO (ll.map cLV):=Qfq (fun _ h=>h) ll
def catV (ll:List (List VA))(i:Nat):List VA:=(ll.take i).flatten
theorem Qao{ll:List (List VA)}{i:Nat}{l:List VA}(h:ll[i]?=some l):catV ll (i+1)=catV ll i++l:=by unfold catV;rw[Q1o h];simp
theorem Qap(ll:List (List VA)):catV ll ll.length=ll.flatten:=by unfold catV;rw[List.take_length]
theorem cat_leV(ll:List (List VA))(j:Nat):(catV ll j).length<=ll.flatten.length:=by
 have:=congrArg (fun z=>z.flatten.length) (List.take_append_drop j ll)
 simp only[List.flatten_append,List.length_append]at this
 unfold catV;omega
theorem Qef(hΓ:∀g cs,(g,cs)∈Γ->idsL isO cs)(ll:List (List VA))(hl:ll.length<=1048576)(hs:ll.flatten.length<=1048576):
  APure Tryz.prog Γ 102 [.one (.sl 1 (ll.map cLV))] (.one (.sl 1 (ll.flatten.map cV))):=by
 intro ou
 have hpre:=cat_leV ll
 refine AFn.walk 36 tabOk Tryz.func102 rfl (by kernel_rfl) rfl rfl fun hou=>?_
 refine zA ?_
 refine ACode.loopR hΓ (α:=Nat) (fun j=>[(11,.one (int j)),(10,.one (int (ll.map cLV).length)),(9,.one (.sl 1 (ll.map cLV))),(3,.one (int (catV ll j).length)),(0,.one (.sl 1 (ll.map cLV)))])
  (fun j=>⟨0,[],ou⟩) (fun m j=>j<=ll.length/\m=ll.length - j) (a0:=0) (ρ:=id) ⟨by omega,rfl⟩ (LessR.of rfl zFS (by simp) zLO rfl rfl hou) fun m j hj=>?_
 obtain⟨hjl,rfl⟩:=hj
 refine zA ?_
 refine ACode.cond rfl (fun hb=>?_) (fun hb=>?_)
 ·have hlt:j < ll.length:=by simpa using hb
  clear hb
  obtain⟨l,hx⟩:=Q01 hlt
  have hsn:(catV ll (j+1))=(catV ll j)++l:=Qao hx
  have hle:=hpre (j+1)
  rw[hsn,List.length_append]at hle
  refine zA ?_
  refine zS (zIA rfl rfl rfl (by omega) (Q04 hx)) ?_
  refine zM ?_
  exact cInv ⟨ll.length - (j+1),j+1,id,by omega,⟨by omega,rfl⟩,LessR.of rfl (FrSub.cons rfl (.ofEq rfl) (FrSub.cons rfl (.ofEq rfl) (FrSub.consP rfl (.ofEq rfl) (by simp) (FrSub.cons rfl (.ofEq (by simp[hsn,FV.ren,AC.ren])) (FrSub.consP rfl (.ofEq rfl) (by simp) .nil))))) (by simp) zLO rfl rfl hou⟩
 ·have hlt:j=ll.length:=by simp at hb;omega
  subst hlt
  rw[Qap]
  refine zA ?_
  refine AOps.cutN 0 rfl hΓ (α:=Option Nat) (fun oc=>[(6,.one (oaC 0 1 [] oc)),(0,.one (.sl 1 (ll.map cLV)))]) (fun oc=>⟨1,[(0,oaO 1 [] oc)],ou⟩) (fun oc=>coO ([]:List (List AC)) oc) ?_ fun oc hoc=>?_
  ·dsimp only [List.take_zero,List.nil_append]
   refine AOps.call1 hΓ rfl rfl rfl rfl rfl rfl rfl (by exact⟨trivial,trivial,trivial⟩) hou (Qgo ll.flatten.length hs ou) fun r ou' hq _ hov=>?_
   rcases hq with ⟨rfl,rfl⟩|⟨k,cap,hk,rfl,rfl⟩
   ·refine AOps.ghost ?_
    refine zA ?_
    exact cInv ⟨none,id,rfl,LessR.of rfl zFS (by simp) zLO rfl rfl hou⟩
   ·refine AOps.adopt hk (Q32 _ (by simp)) ?_
    refine AOps.wk 24 rfl (y:=.one (oaC 0 1 [] (some cap))) (.ofEq (by simp[FV.sub,AC.sub,toL,oaC])) ?_
    refine zA ?_
    exact cInv ⟨some cap,id,by simp[coO],LessR.of rfl zFS (by simp) (LoSub.cons rfl (show AObj.cells (vec 1 [] cap)=AObj.ren id (oaO 1 [] (some cap))from (Qey id 1 [] (some cap) fun _=>Qbe (by simp)).symm) rfl (Qbf (by simp)) .nil) rfl rfl hou⟩
  refine zA ?_
  refine ACode.loopR hΓ (α:=Nat×Option Nat) (fun c=>[(27,.one (int c.1)),(26,.one (int (ll.map cLV).length)),(25,.one (.sl 1 (ll.map cLV))),(6,.one (oaC 0 1 ((catV ll c.1).map cV) c.2))])
   (fun c=>⟨1,[(0,oaO 1 ((catV ll c.1).map cV) c.2)],ou⟩) (fun m c=>c.1<=ll.length/\coO ((catV ll c.1).map cV) c.2/\m=ll.length - c.1) (a0:=(0,oc)) (ρ:=id) ⟨by omega,hoc,rfl⟩ (LessR.of rfl ?_ (by simp) zLO rfl rfl hou) fun m c hc=>?_
  ·(repeat' first|exact FrSub.nil|refine zfc ?_|refine zfo ?_|refine zfp ?_)
  obtain⟨i,oc⟩:=c
  obtain⟨hil,hco,rfl⟩:=hc
  dsimp only at hil hco
  refine zA ?_
  refine ACode.cond rfl (fun hb2=>?_) (fun hb2=>?_)
  ·have hlt:i < ll.length:=by simpa using hb2
   clear hb2
   obtain⟨l,hx⟩:=Q01 hlt
   have hsn:(catV ll (i+1))=(catV ll i)++l:=Qao hx
   have hle:=hpre (i+1)
   rw[hsn,List.length_append]at hle
   refine zA ?_
   refine zS (zIA rfl rfl rfl (by omega) (Q04 hx)) ?_
   refine zA ?_
   by_cases hxe:l=[]
   ·subst hxe
    rw[List.append_nil]at hsn
    refine AOps.appG0 (k:=0) (s:=1) (es:=(catV ll i).map cV) (oc:=oc) tabOk rfl rfl rfl rfl rfl rfl rfl rfl rfl ?_
    refine zM ?_
    exact cInv ⟨ll.length - (i+1),(i+1,oc),id,by omega,⟨by omega,by dsimp only;rw[hsn];exact hco,rfl⟩,LessR.of rfl (by dsimp only;rw[hsn];(repeat' first|exact FrSub.nil|refine zfc ?_|refine zfo ?_|refine zfp ?_)) (by simp) (by dsimp only;rw[hsn];repeat' first|exact LoSub.nil|refine zlc ?_|refine zld ?_ ?_|rfl) rfl rfl hou⟩
   ·refine AOps.appG (k:=0) (s:=1) (es:=(catV ll i).map cV) (oc:=oc) (news:=l.map cV) tabOk rfl rfl rfl rfl rfl rfl rfl rfl rfl rfl hco (fun y hy=>by obtain⟨z,_,rfl⟩:=List.mem_map.1 hy;rfl) (.sl 1 _) (by simpa using hxe) rfl (by simp only[List.length_map];show (_+_) * 16<=_;omega) (by simp only[List.length_map];omega) fun cap hc=>?_
    rw[←List.map_append,←hsn]at hc ⊢
    refine zM ?_
    exact cInv ⟨ll.length - (i+1),(i+1,some cap),fun _=>1,by omega,⟨by omega,hc,rfl⟩,LessR.of rfl zFS (by simp) zLO rfl rfl hou⟩
  ·have hlt:i=ll.length:=by simp at hb2;omega
   subst hlt
   have hfu:=Qap ll
   repeat ((fail_if_success ((with_reducible refine oj ?_);refine AOps.atDst 35 rfl ?_));first|refine zO ?_)
   refine AOps.freezeG 0 6 rfl hco (fun y hy=>by obtain⟨z,_,rfl⟩:=List.mem_map.1 hy;rfl) rfl ?_
   refine zA ?_
   exact APure.fin rfl (WkF.ofEq (by rw[hfu])) (by rw[←hfu];simp) hou rfl
def cFun (f:Fun):List AC:=[.sl 1 (f.params.map cI),.box (cTr f.body)]
theorem Q6c(p:Abs.Id->Prop)(l:List Fun):idsS p (l.map cFun):=Q1l (f:=cFun) (fun f=>by simp[cFun]) l
@[simp] theorem ids_cFun_l (k:Nat) (l:List Fun):idsS (inL k) (l.map cFun):=Q6c _ l
@[simp] theorem Q80 (l:List Fun):idsS isO (l.map cFun):=Q6c _ l
section
variable {fu:Int}{kt:Nat}{fns:List Fun}{ou:Outer}{H:Hm}{nm:Nm2}{m:Ms}{v:Vl}{tc ec vc kc:AC}{t:Tr}{e:En}{d:List Vl}{k:List Fm}{dc:List (List AC)}{tc0 ec0 vc0 kc0:AC}
theorem kid_fn(hΓ:∀g cs,(g,cs)∈Γ->idsL isO cs)(h0:M0 fu ⟨.sl 2 (fns.map cFun),kt⟩ ou H nm m tc0 ec0 vc0 kc0)(he:ER H nm e ec)(hd:VsR H nm d dc)(hk:KR H nm k kc)(hl:d.length=t.kids.length)(h14:t.op=14){i:Nat}(hn:t.n=(i:Int)){f:Fun}(hf:fns[i]?=some f)(hpl:f.params.length=d.length)(h20:f.params.length<=1048576):
  AFn Tryz.prog Γ 69 [.one (.ptr (.o 0) 0),.one (.box [.box (cTr t),ec,.sl 1 dc,kc])] ou (StQ fu ⟨.sl 2 (fns.map cFun),kt⟩ H nm (.ok { m with c:=.ev f.body (allE .nil f.params d),k:=k })):=by
 have hfc:(FcT.mk (.sl 2 (fns.map cFun)) kt).ids isO:=by show idsS isO _;simp
 have hN:=Q5d h0 hk hfc
 have hei:=he.ids
 have hdi:=hd.ids
 have hki:=hk.ids
 have hdl:=hd.len
 have hw:=hN.w
 have hoX:=h0.ouX
 rw[hoX]
 generalize hmc:ou=ou0 at hN hw
 clear hoX
 obtain⟨o,n,b,ks,al⟩:=t
 simp only[Tr.op,Tr.n,Tr.kids]at h14 hn hl
 subst h14;subst hn
 have hop:opdN (.mk 14 (i:Int) b ks al)=ks.length:=rfl
 have hsc:(fns.map cFun)[i]?=some (cFun f):=by rw[List.getElem?_map,hf];rfl
 refine AFn.walk 262 tabOk Tryz.func69 rfl (by kernel_rfl) rfl rfl fun hou=>?_
 refine zA ?_
 refine ACode.drawX tabOk 10 [(9,.one (int (opdN (.mk 14 (i:Int) b ks al))))] follows (by kernel_rfl) rfl rfl rfl rfl ?_ ?_
 ·exact⟨⟨_,rfl,AStep.callPure hΓ rfl rfl rfl (by simp[idsF]) hou (Q3k _)⟩,trivial⟩
 refine zA ?_
 refine ACode.cond rfl (fun hb=>absurd hb (by simp[hop,hdl,hl])) (fun hb=>?_)
 refine zA ?_
 refine ACode.stEq (σ':=⟨0,[],ouX (mC tc0 ec0 vc0 kc m.out m.steps fu ⟨.sl 2 (fns.map cFun),kt⟩) m.out.length ou0⟩) (setX _ _ _ _) ?_
 refine zA ?_
 refine ACode.drawXA tabOk 14 13 [(11,.one (.box (cFun f)))] follows (by kernel_rfl) rfl rfl rfl rfl rfl rfl rfl rfl rfl ?_ ?_ ?_
 ·exact⟨⟨_,rfl,zIA rfl rfl rfl (by show (0:Int)<=(i:Int);omega) (by simpa using hsc)⟩,trivial⟩
 ·exact⟨⟨_,rfl,zIA rfl rfl rfl (by show (0:Int)<=(i:Int);omega) (by simpa using hsc)⟩,trivial⟩
 refine zA ?_
 refine ACode.drawCS tabOk 14 10 11 12 13 (.one (.ptr (.o 0) 0)) (.one (.ptr (.o 0) 0)) []
  (GrS (mC tc0 ec0 vc0 kc m.out m.steps fu ⟨.sl 2 (fns.map cFun),kt⟩) m.out.length ou0 H (mC tc0 ec0 vc0 kc m.out m.steps fu ⟨.sl 2 (fns.map cFun),kt⟩) (1,[(0,.cells (cFun f)),(0,.cells (List.map AC.lit ti90.zero))]) fun v H1=>∃c,v=.one c/\ER H1 nm (allE .nil f.params d) c)
  (GrS (mC tc0 ec0 vc0 kc m.out m.steps fu ⟨.sl 2 (fns.map cFun),kt⟩) m.out.length ou0 H (mC (.box (cTr f.body)) ec0 vc0 kc m.out m.steps fu ⟨.sl 2 (fns.map cFun),kt⟩) (1,[(0,.cells (cFun f)),(0,.cells (List.map AC.lit ti90.zero))]) fun v H1=>∃c,v=.one c/\ER H1 nm (allE .nil f.params d) c)
  follows (by kernel_rfl) rfl rfl (by decide) (by kernel_rfl) (by kernel_rfl) rfl rfl rfl rfl rfl rfl rfl ?_ ?_ trivial (fun _ _ _=>trivial) (fun _ _ _=>trivial) ?_ ?_ ?_ ?_ ?_
 ·rintro v σ ⟨ou1,H1,rfl,_,_⟩;rfl
 ·rintro v σ ⟨ou1,H1,rfl,_,_⟩;rfl
 ·refine Q2w.ofR (Q0k.call hΓ rfl rfl rfl rfl ⟨trivial,by simp,hdi,trivial⟩ hw.ok (Qgh hΓ (.nil (H:=H) (nm:=nm)) hd hpl h20 _ hw.inO) fun r ou' hq hr ho=>?_)
  obtain⟨H1,c1,rfl,hg,hec⟩:=hq
  exact GrS.of hg ⟨c1,rfl,hec⟩
 ·rintro v σ ⟨ou1,H1,rfl,_,_,rfl,_⟩;exact AStep.ofOp tabOk rfl
 ·rintro v σ ⟨ou1,H1,rfl,_,_,rfl,_⟩;exact AStep.ofOp tabOk rfl
 ·rintro v σ ⟨ou1,H1,rfl,h1,h2⟩;exact⟨_,⟨ou1,H1,setXs _ _ _ _ _ _,h1,h2⟩,AStep.ofStore tabOk rfl⟩
 ·rintro v' σ ⟨ou1,H1,rfl,h1,c1,rfl,h3⟩
  refine zA ?_
  have hw2:=hw.gro h1 (by simp[ouX]) (by simp[ouX])
  have hM:MR fu ⟨.sl 2 (fns.map cFun),kt⟩ _ H1 nm { m with c:=.ev f.body (allE .nil f.params d),k:=k }:=MR.ofEv (ou':=(St.set ⟨0,[],ouX (mC (.box (cTr f.body)) ec0 vc0 kc m.out m.steps fu ⟨.sl 2 (fns.map cFun),kt⟩) m.out.length ou1⟩ (.o 0) (.cells (mC (.box (cTr f.body)) c1 vc0 kc m.out m.steps fu ⟨.sl 2 (fns.map cFun),kt⟩))).ou) hw2 h3 (hk.mo (h1.mo nm)) h0.ids.2.2.1 hfc rfl rfl (fun _=>rfl)
  refine AFn.fin' rfl (WkF.refl _) (by simp) hM.ok ⟨rfl,H1,nm,_,?_,h1.mo nm,hM⟩
  rfl
end
section
variable {fu:Int}{kt:Nat}{fns:List Fun}{ou:Outer}{H:Hm}{nm:Nm2}{m:Ms}{k:List Fm}{kc tc0 ec0 vc0:AC}
theorem VsR.va:∀{l:List Vl}{cs:List (List AC)},VsR H nm l cs->∃lv:List VA,cs=lv.map cV
 |_,_,.nil=>⟨[],rfl⟩
 |_,_,.cons v c vs cs hv h=>by
  obtain⟨lv,rfl⟩:=VsR.va h
  exact⟨⟨c,hv.ids⟩::lv,rfl⟩
theorem Qi3(hΓ:∀g cs,(g,cs)∈Γ->idsL isO cs)(h0:M0 fu ⟨.sl 2 (fns.map cFun),kt⟩ ou H nm m tc0 ec0 vc0 kc)(hk:KR H nm k kc){n:Nat}{sl:List Vl}{c:AC}(hv:VR H nm (.cap (n:Int) sl) c){f:Fun}(hf:fns[n]?=some f){l:List Vl}{cs:List (List AC)}(hl:VsR H nm l cs)(hpl:f.params.length=l.length+1)(h20:f.params.length<=1048576):
  AFn Tryz.prog Γ 83 [.one (.ptr (.o 0) 0),.one c,.one (.sl 1 cs)] ou (StQ fu ⟨.sl 2 (fns.map cFun),kt⟩ H nm (.ok { m with c:=.ev f.body (allE .nil f.params (.cap (n:Int) sl::l)),k:=k })):=by
 have hfc:(FcT.mk (.sl 2 (fns.map cFun)) kt).ids isO:=by show idsS isO _;simp
 have hoX:=h0.ouX
 have hki:=hk.ids
 have hvi:=hv.ids
 have hli:=hl.ids
 have hll:=hl.len
 rw[hoX]
 have hw:=h0.w
 rw[hoX]at hw
 generalize hmc:ou=ou0 at hw
 clear hoX
 have hvl:=VsR.cons (H:=H) (nm:=nm) _ _ _ _ hv hl
 obtain⟨lv,rfl⟩:=hl.va
 obtain⟨scs,rfl⟩:∃scs,c=iB tCap [int n,.sl 1 scs]:=by
  rcases hv.isCap with ⟨g,fs,cs,h1,h2,h3⟩|⟨h1,_⟩
  ·cases h1;exact⟨cs,h2⟩
  ·exact absurd rfl (h1 _ sl)
 have n1:notT tClo (iB tCap [int n,.sl 1 scs]):=.inr ⟨_,_,_,rfl,rfl⟩
 have hsc:(fns.map cFun)[n]?=some (cFun f):=by rw[List.getElem?_map,hf];rfl
 have hcat:=Qef (Γ:=Γ) hΓ [[⟨iB tCap [int n,.sl 1 scs],hvi⟩],lv] (by simp) (by simp;simp at hll;omega)
 refine AFn.walk 137 tabOk Tryz.func83 rfl (by kernel_rfl) rfl rfl fun hou=>?_
 refine zA ?_
 refine zS (AStep.assertNo concClo rfl zClo rfl rfl n1) ?_
 refine zA ?_
 refine zS (AStep.assertYes Q7c rfl rfl) ?_
 refine zA ?_
 refine ACode.drawXA tabOk 11 10 [(8,.one (.box (cFun f)))] follows (by kernel_rfl) rfl rfl rfl rfl rfl rfl rfl rfl rfl ?_ ?_ ?_
 ·exact⟨⟨_,rfl,zIA rfl rfl rfl (by show (0:Int)<=(n:Int);omega) (by simpa using hsc)⟩,trivial⟩
 ·exact⟨⟨_,rfl,zIA rfl rfl rfl (by show (0:Int)<=(n:Int);omega) (by simpa using hsc)⟩,trivial⟩
 refine zM ?_
 refine ACode.cond rfl (fun _=>?_) (fun hb=>absurd hb (by simp at hll;simp;omega))
 refine zA ?_
 refine ACode.stEq (σ':=⟨2,[(1,.cells (cFun f)),(1,.cells (List.map AC.lit ti90.zero)),(0,.cells [.ptr (.o 0) 0])],ouX (mC tc0 ec0 vc0 kc m.out m.steps fu ⟨.sl 2 (fns.map cFun),kt⟩) m.out.length ou0⟩) rfl ?_
 refine ACode.drawC2 tabOk 16 [11,12,13,14,15] [(7,.one (iB tCap [int n,.sl 1 scs])),(8,.one (.sl 1 [[iB tCap [int n,.sl 1 scs]]])),(10,.one (.sl 1 [[.sl 1 [[iB tCap [int n,.sl 1 scs]]]],[.sl 1 (lv.map cV)]]))] (fun vs σ=>match vs with
  |[]=>σ=⟨2,[(1,.cells (cFun f)),(1,.cells (List.map AC.lit ti90.zero)),(0,.cells [.ptr (.o 0) 0])],ouX (mC tc0 ec0 vc0 kc m.out m.steps fu ⟨.sl 2 (fns.map cFun),kt⟩) m.out.length ou0⟩
  |[x]=>x=.one (.sl 1 ([[⟨iB tCap [int n,.sl 1 scs],hvi⟩],lv].flatten.map cV))/\σ=⟨2,[(1,.cells (cFun f)),(1,.cells (List.map AC.lit ti90.zero)),(0,.cells [.ptr (.o 0) 0])],ouX (mC tc0 ec0 vc0 kc m.out m.steps fu ⟨.sl 2 (fns.map cFun),kt⟩) m.out.length ou0⟩
  |[x,y]=>GrS (mC tc0 ec0 vc0 kc m.out m.steps fu ⟨.sl 2 (fns.map cFun),kt⟩) m.out.length ou0 H (mC tc0 ec0 vc0 kc m.out m.steps fu ⟨.sl 2 (fns.map cFun),kt⟩) (2,[(1,.cells (cFun f)),(1,.cells (List.map AC.lit ti90.zero)),(0,.cells [.ptr (.o 0) 0])]) (fun v H1=>∃c,v=.one c/\ER H1 nm (allE .nil f.params (.cap (n:Int) sl::l)) c) y σ
  |[x,y,a]=>GrS (mC tc0 ec0 vc0 kc m.out m.steps fu ⟨.sl 2 (fns.map cFun),kt⟩) m.out.length ou0 H (mC tc0 ec0 vc0 kc m.out m.steps fu ⟨.sl 2 (fns.map cFun),kt⟩) (2,[(1,.cells (cFun f)),(1,.cells (List.map AC.lit ti90.zero)),(0,.cells [.ptr (.o 0) 0])]) (fun v H1=>∃c,v=.one c/\ER H1 nm (allE .nil f.params (.cap (n:Int) sl::l)) c) y σ/\a=.one (.ptr (.o 0) 0)
  |[x,y,a,b]=>GrS (mC tc0 ec0 vc0 kc m.out m.steps fu ⟨.sl 2 (fns.map cFun),kt⟩) m.out.length ou0 H (mC tc0 ec0 vc0 kc m.out m.steps fu ⟨.sl 2 (fns.map cFun),kt⟩) (2,[(1,.cells (cFun f)),(1,.cells (List.map AC.lit ti90.zero)),(0,.cells [.ptr (.o 0) 0])]) (fun v H1=>∃c,v=.one c/\ER H1 nm (allE .nil f.params (.cap (n:Int) sl::l)) c) y σ/\a=.one (.ptr (.o 0) 0)/\b=.one (.ptr (.o 0) 0)
  |[x,y,a,b,s]=>GrS (mC tc0 ec0 vc0 kc m.out m.steps fu ⟨.sl 2 (fns.map cFun),kt⟩) m.out.length ou0 H (mC (.box (cTr f.body)) ec0 vc0 kc m.out m.steps fu ⟨.sl 2 (fns.map cFun),kt⟩) (2,[(1,.cells (cFun f)),(1,.cells (List.map AC.lit ti90.zero)),(0,.cells [.ptr (.o 0) 0])]) (fun v H1=>∃c,v=.one c/\ER H1 nm (allE .nil f.params (.cap (n:Int) sl::l)) c) y σ/\a=.one (.ptr (.o 0) 0)/\b=.one (.ptr (.o 0) 0)/\s=.bot
  |_=>False) follows (by kernel_rfl) rfl rfl (by decide) (by kernel_rfl) (by kernel_rfl) rfl rfl ?_ ?_ (by decide) ?_ ?_
 ·intro vs σ h
  match vs with
  |[]=>subst h;rfl
  |[_]=>obtain⟨_,rfl⟩:=h;rfl
  |[_,_]=>obtain⟨_,_,rfl,_⟩:=h;rfl
  |[_,_,_]=>obtain⟨⟨_,_,rfl,_⟩,_⟩:=h;rfl
  |[_,_,_,_]=>obtain⟨⟨_,_,rfl,_⟩,_⟩:=h;rfl
  |[_,_,_,_,_]=>obtain⟨⟨_,_,rfl,_⟩,_⟩:=h;rfl
  |_::_::_::_::_::_::_=>exact h.elim
 ·intro vs σ h
  exact⟨⟨_,rfl,HStep.plain rfl (AStep.mkIfc Q7c rfl rfl)⟩,⟨_,rfl,HStep.auto tabOk rfl⟩,⟨_,rfl,HStep.auto tabOk rfl⟩,trivial⟩
 ·intro vs σ h i o hi ho
  match vs with
  |[]=>
   subst h;cases hi;cases ho
   refine⟨rfl,.inl (.inr ⟨rfl,Q0k.call hΓ rfl rfl rfl rfl ⟨by simp[hvi],trivial⟩ hw.ok (hcat _) fun r ou' hq hr ho=>?_⟩)⟩
   obtain⟨rfl,rfl⟩:=hq
   exact⟨rfl,rfl⟩
  |[x]=>
   obtain⟨rfl,rfl⟩:=h;cases hi;cases ho
   refine⟨rfl,.inl (.inr ⟨rfl,Q0k.call hΓ rfl rfl rfl rfl ⟨trivial,by simp,Qhp _,trivial⟩ hw.ok (Qgh hΓ (.nil (H:=H) (nm:=nm)) (by simpa[cV]using hvl) (by simpa using hpl) h20 _ hw.inO) fun r ou' hq hr ho=>?_⟩)⟩
   obtain⟨H1,c1,rfl,hg,hec⟩:=hq
   exact GrS.of (L:=(2,[(1,.cells (cFun f)),(1,.cells (List.map AC.lit ti90.zero)),(0,.cells [.ptr (.o 0) 0])])) hg ⟨c1,rfl,hec⟩
  |[x,y]=>obtain⟨ou1,H1,rfl,h1,h2⟩:=h;cases hi;cases ho;exact⟨rfl,.inl (.inl ⟨_,_,AStep.ofOp tabOk rfl,⟨ou1,H1,rfl,h1,h2⟩,rfl⟩)⟩
  |[x,y,a]=>obtain⟨⟨ou1,H1,rfl,h1,h2⟩,rfl⟩:=h;cases hi;cases ho;exact⟨rfl,.inl (.inl ⟨_,_,AStep.ofOp tabOk rfl,⟨ou1,H1,rfl,h1,h2⟩,rfl,rfl⟩)⟩
  |[x,y,a,b]=>obtain⟨⟨ou1,H1,rfl,h1,h2⟩,rfl,rfl⟩:=h;cases hi;cases ho;exact⟨rfl,.inl (.inl ⟨_,_,AStep.ofStore tabOk rfl,⟨ou1,H1,setXs _ _ _ _ _ _,h1,h2⟩,rfl,rfl,rfl⟩)⟩
  |_::_::_::_::_::_=>cases hi
 ·intro vs σ hlen h
  match vs,hlen with
  |[x,y,a,b,s],_=>
   obtain⟨⟨ou1,H1,rfl,h1,c1,rfl,h3⟩,rfl,rfl,rfl⟩:=h
   refine zA ?_
   have hw2:=hw.gro h1 (by simp[ouX]) (by simp[ouX])
   have hM:MR fu ⟨.sl 2 (fns.map cFun),kt⟩ _ H1 nm { m with c:=.ev f.body (allE .nil f.params (.cap (n:Int) sl::l)),k:=k }:=MR.ofEv (ou':=(St.set ⟨0,[],ouX (mC (.box (cTr f.body)) ec0 vc0 kc m.out m.steps fu ⟨.sl 2 (fns.map cFun),kt⟩) m.out.length ou1⟩ (.o 0) (.cells (mC (.box (cTr f.body)) c1 vc0 kc m.out m.steps fu ⟨.sl 2 (fns.map cFun),kt⟩))).ou) hw2 h3 (hk.mo (h1.mo nm)) h0.ids.2.2.1 hfc rfl rfl (fun _=>rfl)
   refine AFn.fin' rfl (WkF.refl _) (by simp) hM.ok ⟨rfl,H1,nm,_,?_,h1.mo nm,hM⟩
   rfl
end
theorem Q5v{H:Type}:∀l:List (DataW H),Rows.uptoBulkAll l=Q2m Rows.uptoBulk l
 |[]=>rfl
 |d::l=>by simp only[Rows.uptoBulkAll,Q2m,List.map_cons,List.sum_cons]at *;rw[Q5v l];rfl
theorem Qde{H:Type}(l:List (DataW H)):Q2m Rows.uptoBulk l+1<=Rows.uptoBulk (.agg l):=by
 simp only[Rows.uptoBulk,Q5v];omega
theorem Qea{H:Type}(l r:List (DataW H)):Q2m Rows.uptoBulk l+1<=Rows.uptoBulk (.slice l r):=by
 simp only[Rows.uptoBulk,Q5v];omega
theorem Qi7{H:Type}:1<=Rows.uptoBulk (DataW.nil:DataW H):=by simp[Rows.uptoBulk]
section
variable {H:Type}{enc:TypeId×Value->H}{w:World}
abbrev I64:={i:Int // IntKind.i64.min<=i/\i<=IntKind.i64.max}
theorem Q4r(n:Nat):Opens enc Tryz.prog w Rows.uptoBulk 3 n (fun i:I64=>[int i.1]) (fun _=>1):=by
 intro cs x h
 obtain⟨i,rfl,rfl,hw⟩:=DataW.trod_int Tryz.underlying3 h
 refine⟨⟨i,?_⟩,⟨_,_,rfl,⟨rfl,rfl⟩,rfl⟩,by simp[Rows.uptoBulk]⟩
 simpa[Lit.wf]using hw
theorem Q4c{t e:TypeId}{s:Nat}(ht:Tryz.prog.underlying t=some (.slice e))(hs:Tryz.prog.cellsOf e=s)(h0:0 < s){α:Type}{c:α->List AC}{wt:α->Nat}(n:Nat)(he:∀m,m < n->Opens enc Tryz.prog w Rows.uptoBulk e m c wt):
  Opens enc Tryz.prog w Rows.uptoBulk t n (fun l:List α=>[.sl s (l.map c)]) (fun l=>wtAll wt l+1):=by
 cases n with
 |zero=>exact Opens.zero
 |succ n=>exact Opens.slice Qea Qi7 ht hs h0 (he n (by omega))
theorem wt_one{α:Type}(l:List α):wtAll (fun _=>1) l=l.length:=by
 unfold wtAll
 induction l with
 |nil=>rfl
 |cons a l ih=>simp only[List.map_cons,List.sum_cons,List.length_cons,ih];omega
theorem Q5a(n:Nat):Opens enc Tryz.prog w Rows.uptoBulk 25 n (fun l:List Int=>[.sl 1 (l.map cI)]) (fun l=>l.length+1):=by
 refine Opens.as (Q4c Tryz.underlying25 (s:=1) (by kernel_rfl) (by omega) n (fun m _=>Q4r m)) fun l=>⟨l.map (·.1),?_,?_⟩
 ·simp only[List.map_map];rfl
 ·rw[wt_one];simp
def bAlt (a:Alt):Nat:=a.binds.length+3
def bAlts (l:List Alt):Nat:=(l.map bAlt).sum
def bEx (x:Ex):Nat:=x.binds.length+x.kids.length+bAlts x.alts+6
def bExs (l:List Ex):Nat:=(l.map bEx).sum
theorem Qhd(n:Nat):Opens enc Tryz.prog w Rows.uptoBulk 106 n cAlt bAlt:=by
 cases n with
 |zero=>exact Opens.zero
 |succ n=>
  refine Opens.as (Opens.struct Qde Tryz.underlying106 (.cons rfl (by kernel_rfl) (Q4r n) (fun _=>rfl) (.cons rfl (by kernel_rfl) (Q5a n) (fun _=>rfl) (.nil _))) (fun _=>(show (2:Nat)=_ by kernel_rfl))) ?_
  rintro⟨i,l,_⟩
  exact⟨⟨i.1,l⟩,rfl,by show l.length+3<=1+(l.length+1+0)+1;omega⟩
theorem opensEx(n:Nat):Opens enc Tryz.prog w Rows.uptoBulk 53 n cEx bEx:=by
 cases n with
 |zero=>exact Opens.zero
 |succ n=>
  have ha:=Q4c (enc:=enc) (w:=w) (t:=51) Tryz.underlying51 (s:=2) (by kernel_rfl) (by omega) n (fun m _=>Qhd m)
  refine Opens.as (Opens.struct Qde Tryz.underlying53 (.cons rfl (by kernel_rfl) (Q4r n) (fun _=>rfl) (.cons rfl (by kernel_rfl) (Q4r n) (fun _=>rfl) (.cons rfl (by kernel_rfl) (Q5a n) (fun _=>rfl) (.cons rfl (by kernel_rfl) (Q5a n) (fun _=>rfl) (.cons rfl (by kernel_rfl) ha (fun _=>rfl) (.nil _)))))) (fun _=>(show (5:Nat)=_ by kernel_rfl))) ?_
  rintro⟨i,j,b,k,l,_⟩
  refine⟨⟨i.1,j.1,b,k,l⟩,rfl,?_⟩
  show b.length+k.length+bAlts l+6<=1+(1+(b.length+1+(k.length+1+(wtAll bAlt l+1+0))))+1
  have:wtAll bAlt l=bAlts l:=rfl
  omega
theorem Qhc(n:Nat):Opens enc Tryz.prog w Rows.uptoBulk 39 n (fun l:List Ex=>[.sl 5 (l.map cEx)]) (fun l=>bExs l+1):=
 Q4c Tryz.underlying39 (s:=5) (by kernel_rfl) (by omega) n (fun m _=>opensEx m)
theorem Qh5{t e:TypeId}{base:Nat}{r:Reach}{W:World}{v:Value}{C:Ctx}{c:AC}(ht:Tryz.prog.underlying t=some (.slice e))(h:Value.okWide Tryz.prog W r base t v)(hr:RV W C [c] v.cells.toList):RF W C (.one c) v:=by
 obtain⟨a,len,cap,rfl⟩:=WideShapes.okWide_slice ht h
 obtain⟨u,us,he,h1,h2⟩:=hr
 simp[Value.cells]at he
 obtain⟨rfl,rfl⟩:=he
 exact h1
end
theorem Qb1{α:Type}{f:α->Nat}:∀{l:List α}{a:α},a∈l->f a<=(l.map f).sum
 |b::l,a,h=>by
  simp only[List.map_cons,List.sum_cons]
  rcases List.mem_cons.1 h with rfl|h
  ·omega
  ·have:=Qb1 (f:=f) h;omega
theorem Qb2{α:Type}{f:α->Nat}(hf:∀a,1<=f a):∀l:List α,l.length<=(l.map f).sum
 |[]=>by simp
 |b::l=>by
  have h1:=hf b
  have h2:=Qb2 hf l
  simp only[List.map_cons,List.sum_cons,List.length_cons];omega
theorem Q87:∀l:List Alt,(l.flatMap (·.binds)).length<=bAlts l
 |[]=>by simp[bAlts]
 |a::l=>by
  have:=Q87 l
  simp only[bAlts,bAlt,List.flatMap_cons,List.length_append,List.map_cons,List.sum_cons]at *
  omega
theorem okB_of{e:List Ex}(h:bExs e<=1048576):okB e:=by
 have h1:=Qb2 (f:=bEx) (fun x=>by simp only[bEx];omega) e
 have hx:∀x∈e,bEx x<=1048576:=fun x hx=>by
  have h2:bEx x<=bExs e:=Qb1 hx
  omega
 have h1':e.length<=bExs e:=h1
 refine⟨⟨by omega,fun x hx1=>?_⟩,fun x hx1=>?_⟩
 ·have h2:=hx x hx1
  simp only[bEx]at h2
  have h3:=Qb2 (f:=bAlt) (fun a=>by simp only[bAlt];omega) x.alts
  have h3':x.alts.length<=bAlts x.alts:=h3
  refine⟨by omega,by omega,by omega,fun a ha=>?_⟩
  have h4:bAlt a<=bAlts x.alts:=Qb1 ha
  simp only[bAlt]at h4
  omega
 ·have h2:=hx x hx1
  simp only[bEx]at h2
  have h3:=Q87 x.alts
  omega
theorem Qbv{W:World}(h:laidMetH Tryz.prog [("provenance/core.arity",Rows.laid_provenance_core_arity)] W):∀g cs,(g,cs)∈Γc->RG W (ctx0 W) cs g:=by
 have ht:Lib.TabIs Tryz.prog W "provenance/core.arity" .i64 [2,2,2,2,2,2,2,1,2,1,2,3]:=
  Lib.tabIs_of_head (rest:=[]) (g:=0) (t:=139) (n:=12) (by kernel_rfl) (by kernel_rfl) (by kernel_rfl) Tryz.underlying3 (by kernel_rfl) (by kernel_rfl) h
 have hg:Tryz.prog.globalNamed "provenance/core.arity" = some 0:=by kernel_rfl
 intro g cs hm
 simp[Γc]at hm
 obtain⟨rfl,rfl⟩:=hm
 exact RG.ofVar hg ht rfl
structure FnD where
 name:Int
 params:List Int
 body:List Ex
def encF (f:FnD):List AC:=[int f.name,.sl 1 (f.params.map cI),.sl 5 (f.body.map cEx)]
@[simp] theorem idsL_encF (p:Abs.Id->Prop) (f:FnD):idsL p (encF f):=by simp[encF]
theorem Qd1(p:Abs.Id->Prop)(l:List FnD):idsS p (l.map encF):=Q1l (f:=encF) (fun f=>by simp[encF]) l
@[simp] theorem ids_encF_l (k:Nat) (l:List FnD):idsS (inL k) (l.map encF):=Qd1 _ l
@[simp] theorem Q41 (l:List FnD):idsS isO (l.map encF):=Qd1 _ l
def Qbt (fs:List FnD)(x:Ex):Prop:=x.op=14∨x.op=15->∃(i:Nat)(g:FnD),x.n=(i:Int)/\fs[i]?=some g/\(x.op=14->x.kids.length=g.params.length)/\(x.op=15->g.params.length≠0)
structure FnOkD (fs:List FnD)(f:FnD):Prop where
 n:-1<=f.name/\f.name < 1048576
 pl:f.params.length<=6
 pr:∀x∈f.params,0<=x/\x < 1048576
 okb:okB f.body
 b:body f.body f.params true=0
 c:∀x∈f.body,Qbt fs x
theorem Qe5(fs:List FnD)(hfl:fs.length<=1048576)(f:FnD)(h:FnOkD fs f)(main:Int):APure Tryz.prog Γc 33 [.agg [.sl 3 (fs.map encF),int main],.agg (encF f)] (.one (int 0)):=by
 have hB:=Qc1 f.body h.okb f.params (by have:=h.pl;omega) true
 rw[h.b]at hB
 have hbl:=h.okb.eo.l
 have hpl:=h.pl
 have hnm:=h.n
 intro ou
 refine AFn.walk 94 tabOk Tryz.func33 rfl (by kernel_rfl) rfl rfl fun hou=>?_
 refine zM ?_
 refine AOps.splitS rfl rfl rfl rfl (fun hb=>absurd hb (by simp;omega)) (fun _=>?_)
 refine zM ?_
 refine ACode.cond rfl (fun hb=>absurd hb (by simp;omega)) (fun _=>?_)
 refine zM ?_
 refine ACode.cond rfl (fun hb=>absurd hb (by simp;omega)) (fun _=>?_)
 refine zM ?_
 refine ACode.freeze1 (.l 0) 2 rfl rfl ?_
 refine ACode.freeze1 (.l 1) 3 rfl rfl ?_
 refine ACode.loopR hΓc (α:=Nat) (fun j=>[(26,.one (int j)),(25,.one (int (f.params.map cI).length)),(24,.one (.sl 1 (f.params.map cI))),(3,.one (.box (encF f))),(2,.one (.box [.sl 3 (fs.map encF),int main]))]) (fun j=>⟨0,[],ou⟩) (fun m j=>j<=f.params.length/\m=f.params.length - j) (a0:=0) (ρ:=_root_.id) ⟨by omega,rfl⟩ (LessR.of rfl zFS (by simp) zLO rfl rfl hou) fun m j hj=>?_
 obtain⟨hjl,rfl⟩:=hj
 refine zA ?_
 refine ACode.cond rfl (fun hb2=>?_) (fun hb2=>?_)
 ·have hlt:j < f.params.length:=by simpa using hb2
  obtain⟨x,hx⟩:=Q01 hlt
  have hxr:=h.pr x (List.mem_of_getElem? hx)
  refine zA ?_
  refine zS (zIA rfl rfl rfl (by omega) (Q04 hx)) ?_
  refine zA ?_
  refine AOps.splitS rfl rfl rfl rfl (fun hb=>absurd hb (by simp;omega)) (fun _=>?_)
  refine zM ?_
  refine ACode.cond rfl (fun hb=>absurd hb (by simp;omega)) (fun _=>?_)
  refine zM ?_
  exact cInv ⟨f.params.length - (j+1),j+1,_root_.id,by omega,⟨by omega,rfl⟩,LessR.of rfl zFS (by simp) zLO rfl rfl hou⟩
 refine zA ?_
 refine zca hΓc hB hou ?_
 refine zM ?_
 refine ACode.loopR hΓc (α:=Nat) (fun j=>[(48,.one (int j)),(47,.one (int (f.body.map cEx).length)),(46,.one (.sl 5 (f.body.map cEx))),(3,.one (.box (encF f))),(2,.one (.box [.sl 3 (fs.map encF),int main]))]) (fun j=>⟨0,[],ou⟩) (fun m j=>j<=f.body.length/\m=f.body.length - j) (a0:=0) (ρ:=_root_.id) ⟨by omega,rfl⟩ (LessR.of rfl zFS (by simp) zLO rfl rfl hou) fun m j hj=>?_
 obtain⟨hjl,rfl⟩:=hj
 clear hb2
 refine zA ?_
 refine ACode.cond rfl (fun hb2=>?_) (fun hb2=>?_)
 ·have hlt:j < f.body.length:=by simpa using hb2
  obtain⟨x,hx⟩:=Q01 hlt
  have hc:=h.c x (List.mem_of_getElem? hx)
  have hxm:=List.mem_of_getElem? hx
  obtain⟨o,n,b,k,al⟩:=x
  simp only[Qbt]at hc
  by_cases h14:o=14
  ·obtain⟨i,g,hn,hg,hk,-⟩:=hc (.inl h14)
   have hk:=hk h14
   subst h14;subst hn
   have hgl:i < fs.length:=(List.getElem?_eq_some_iff.1 hg).1
   refine zA ?_
   refine zS (zIA rfl rfl rfl (by omega) (Q04 hx)) ?_
   refine zA ?_
   refine ACode.cond rfl (fun hb=>absurd hb (by simp;omega)) (fun _=>?_)
   refine zA ?_
   refine zS (zIA rfl rfl rfl (Int.natCast_nonneg i) (Q04 hg)) ?_
   refine zA ?_
   refine AOps.splitS rfl rfl rfl rfl (fun hb=>absurd hb (by simp[hk])) (fun _=>?_)
   refine zM ?_
   exact cInv ⟨f.body.length - (j+1),j+1,_root_.id,by omega,⟨by omega,rfl⟩,LessR.of rfl zFS (by simp) zLO rfl rfl hou⟩
  by_cases h15:o=15
  ·obtain⟨i,g,hn,hg,-,hk⟩:=hc (.inr h15)
   have hk:=hk h15
   subst h15;subst hn
   have hgl:i < fs.length:=(List.getElem?_eq_some_iff.1 hg).1
   refine zA ?_
   refine zS (zIA rfl rfl rfl (by omega) (Q04 hx)) ?_
   refine zA ?_
   refine ACode.cond rfl (fun hb=>absurd hb (by simp;omega)) (fun _=>?_)
   refine zA ?_
   refine zS (zIA rfl rfl rfl (Int.natCast_nonneg i) (Q04 hg)) ?_
   refine zA ?_
   refine ACode.cond rfl (fun hb=>absurd hb (by simpa using hk)) (fun _=>?_)
   refine zM ?_
   exact cInv ⟨f.body.length - (j+1),j+1,_root_.id,by omega,⟨by omega,rfl⟩,LessR.of rfl zFS (by simp) zLO rfl rfl hou⟩
  refine zA ?_
  refine zS (zIA rfl rfl rfl (by omega) (Q04 hx)) ?_
  refine zA ?_
  refine AOps.splitS rfl rfl rfl rfl (fun _=>?_) (fun hb=>absurd hb (by simpa using h14))
  refine zM ?_
  refine ACode.cond rfl (fun _=>?_) (fun hb=>absurd hb (by simpa using h15))
  refine zM ?_
  exact cInv ⟨f.body.length - (j+1),j+1,_root_.id,by omega,⟨by omega,rfl⟩,LessR.of rfl zFS (by simp) zLO rfl rfl hou⟩
 refine zA ?_
 exact APure.fin rfl (WkF.ofEq rfl) (by simp) hou rfl
structure PrgOk (fs:List FnD)(main:Nat):Prop where
 l:fs.length<=256
 b:∀f∈fs,FnOkD fs f
 m:∃f,fs[main]?=some f/\f.params=[]
theorem Qaf(fs:List FnD)(main:Nat)(h:PrgOk fs main):APure Tryz.prog Γc 19 [.agg [.sl 3 (fs.map encF),int (main:Int)]] (.one (int 0)):=by
 have hfl:=h.l
 obtain⟨f0,h0,h1⟩:=h.m
 have hml:main < fs.length:=(List.getElem?_eq_some_iff.1 h0).1
 intro ou
 refine AFn.walk 52 tabOk Tryz.func19 rfl (by kernel_rfl) rfl rfl fun hou=>?_
 refine zM ?_
 refine ACode.cond rfl (fun hb=>absurd hb (by simp;intro h;subst h;simp at hml)) (fun _=>?_)
 refine zM ?_
 refine ACode.cond rfl (fun hb=>absurd hb (by simp;omega)) (fun _=>?_)
 refine zM ?_
 refine ACode.cond rfl (fun hb=>absurd hb (by simp;omega)) (fun _=>?_)
 refine zA ?_
 refine zS (zIA rfl rfl rfl (Int.natCast_nonneg main) (Q04 h0)) ?_
 refine zM ?_
 refine ACode.cond rfl (fun hb=>absurd hb (by simp[h1])) (fun _=>?_)
 refine zA ?_
 refine ACode.freeze1 (.l 0) 1 rfl rfl ?_
 refine ACode.loopR hΓc (α:=Nat) (fun j=>[(41,.one (int j)),(40,.one (int (fs.map encF).length)),(39,.one (.sl 3 (fs.map encF))),(1,.one (.box [.sl 3 (fs.map encF),int (main:Int)]))]) (fun j=>⟨0,[],ou⟩) (fun m j=>j<=fs.length/\m=fs.length - j) (a0:=0) (ρ:=_root_.id) ⟨by omega,rfl⟩ (LessR.of rfl zFS (by simp) zLO rfl rfl hou) fun m j hj=>?_
 obtain⟨hjl,rfl⟩:=hj
 refine zA ?_
 refine ACode.cond rfl (fun hb2=>?_) (fun hb2=>?_)
 ·have hlt:j < fs.length:=by simpa using hb2
  obtain⟨x,hx⟩:=Q01 hlt
  refine zA ?_
  refine zS (zIA rfl rfl rfl (by omega) (Q04 hx)) ?_
  refine zA ?_
  refine zca hΓc (Qe5 fs (by omega) x (h.b x (List.mem_of_getElem? hx)) main) hou ?_
  refine zM ?_
  exact cInv ⟨fs.length - (j+1),j+1,_root_.id,by omega,⟨by omega,rfl⟩,LessR.of rfl zFS (by simp) zLO rfl rfl hou⟩
 refine zA ?_
 exact APure.fin rfl (WkF.ofEq rfl) (by simp) hou rfl
@[simp] theorem Qez (ρ:Nat->Nat) (l:List Fun):renS ρ (l.map cFun)=l.map cFun:=Q19 ρ _ (Q80 l)
def funD (f:FnD):Fun:=⟨f.params,grow f.body⟩
def funsD (fs:List FnD):List Fun:=fs.map funD
theorem Qfz(fs:List FnD):(funsD fs).length=fs.length:=by simp[funsD]
theorem Qe4{fs:List FnD}{j:Nat}{x:FnD}(h:fs[j]?=some x):funsD (fs.take (j+1))=funsD (fs.take j)++[funD x]:=by rw[Q1c h];simp[funsD]
theorem Qi5{fs:List FnD}{i:Nat}{f:FnD}(h:fs[i]?=some f):((funsD fs).map cFun)[i]?=some [.sl 1 (f.params.map cI),.box (cTr (grow f.body))]:=by
 rw[List.getElem?_map,funsD,List.getElem?_map,h];rfl
theorem Qie(t:Tr)(fu:Int)(ac:AC)(ha:ac.ids isO):MR fu ⟨ac,1⟩ (ouOf [.cells (mC (.box (cTr t)) nilPE (.lit .nilIface) nilPE [] 0 fu ⟨ac,1⟩),.tok 3 1 0]) (fun _=>none) [] ⟨.ev t .nil,[],[],0,[]⟩:=by
 refine⟨⟨1,_,_,_,_,.ev t .nil nilPE (.lit .nilIface) .nil,.nil,⟨⟨by simp,trivial,trivial,trivial⟩,rfl,⟨fun k cs hk=>(by cases hk),fun k o hk=>?_,rfl,fun a k n h=>(by simp at h),fun a k n h=>rfl,fun a b k n n' h=>(by simp at h),⟨rfl,fun a k n h=>(by simp at h)⟩,fun cs hc es i hi=>?_,fun k o hk=>?_⟩⟩⟩⟩
 ·match k,hk with
  |0,hk=>cases hk;exact⟨by simp,trivial,trivial,trivial,⟨trivial,trivial⟩,trivial,trivial,ha,trivial⟩
  |1,hk=>cases hk;trivial
  |k+2,hk=>simp[ouOf]at hk
 ·cases hc
  cases hi
  exact⟨1,rfl,Nat.le_refl _,rfl,rfl,fun a k n h=>by simp at h⟩
 ·match k,hk with
  |0,hk=>cases hk;trivial
  |1,hk=>cases hk;trivial
  |k+2,hk=>simp[ouOf]at hk
instance:Inhabited FnD:=⟨⟨0,[],[]⟩⟩
structure Sc where
 self:Int
 many:Nat
 pl:Int->Option (Int×Int)
structure Bs where
 fns:List FnD
 next:Int
 bad:Bool
def refT (id:Int):Tr:=.mk 0 id [] [] []
def slotT (self i:Int):Tr:=.mk 16 i [] [refT self] []
def Q2n (self:Int):Nat->List Tr
 |0=>[]
 |k+1=>Q2n self k++[slotT self k]
def varC (s:Sc)(id:Int):Tr:=match s.pl id with
 |none=>refT id
 |some (sl,fn)=>if 0<=fn then .mk 15 fn [] (Q2n s.self s.many) []else slotT s.self sl
def closC (fn:Int)(needs:List Int)(s:Sc):Tr:=.mk 15 fn [] (needs.map (varC s)) []
def addN1 (group out:List Int)(n:Int):List Int:=if (!out.contains n&&!group.contains n)=true then out++[n]else out
def outF (group out:List Int)(f:Tr):List Int:=(Q1z f).foldl (addN1 group) out
def outside (fns:List Tr)(group:List Int):List Int:=(fns.foldl (outF group) []).mergeSort fun x y=>decide (x<=y)
def plN (needs:List Int):Nat->Int->Option (Int×Int)
 |0=>fun _=>none
 |k+1=>setF (plN needs k) (needs.getD k 0) ((k:Int),-1)
def plG (f:Int->Option (Int×Int))(group:List Int)(base:Nat):Nat->Int->Option (Int×Int)
 |0=>f
 |k+1=>setF (plG f group base k) (group.getD k 0) (-1,((base+k:Nat):Int))
def Q0o (cv:Tr->Bs->Tr×Bs)(ks:List Tr):Nat->Bs->List Tr×Bs
 |0,b=>([],b)
 |i+1,b=>((Q0o cv ks i b).1++[(cv (ks.getD i default) (Q0o cv ks i b).2).1],(cv (ks.getD i default) (Q0o cv ks i b).2).2)
def scF (needs group:List Int)(base:Nat)(self:Int):Sc:=⟨self,needs.length,plG (plN needs needs.length) group base group.length⟩
def putD (fns:List FnD)(j:Nat)(params:List Int)(body:List Ex):List FnD:=fns.set j ⟨(fns.getD j default).name,params,body⟩
def Q76 (cv:Sc->Tr->Bs->Tr×Bs)(needs group:List Int)(base i:Nat)(f:Tr)(b:Bs):Bs:=
 let r:=cv (scF needs group base b.next) (f.kids.getD 0 default) { b with next:=b.next+1 }
 { r.2 with fns:=putD r.2.fns (base+i) (b.next::f.binds) (listT [] r.1),bad:=r.2.bad||decide (6<=f.binds.length) }
def Q1f (cv:Sc->Tr->Bs->Tr×Bs)(needs group:List Int)(base:Nat)(fns:List Tr):Nat->Bs->Bs
 |0,b=>b
 |i+1,b=>Q76 cv needs group base i (fns.getD i default) (Q1f cv needs group base fns i b)
def newF (names:List Int):Nat->List FnD
 |0=>[]
 |k+1=>newF names k++[⟨names.getD k 0,[],[]⟩]
def fnsM (cv:Sc->Tr->Bs->Tr×Bs)(fns:List Tr)(group names:List Int)(b:Bs):Bs:=
 let needs:=outside fns group
 let b2:=Q1f cv needs group b.fns.length fns fns.length { b with fns:=b.fns++newF names fns.length }
 { b2 with bad:=b2.bad||decide (16 < needs.length)||decide (256 < b2.fns.length) }
def letsC (base:Nat)(needs:List Int)(s:Sc)(binds:List Int):Nat->Tr->Tr
 |0,body=>body
 |i+1,body=>letsC base needs s binds i (.mk 4 0 [binds.getD i 0] [closC ((base+i:Nat):Int) needs s,body] [])
def cv:Nat->Sc->Tr->Bs->Tr×Bs
 |0,_,_,b=>(default,b)
 |n+1,s,.mk o x bs ks al,b=>
  if o=0 then (varC s x,b)
  else if o=2 then (closC (b.fns.length:Int) (outside [.mk o x bs ks al] []) s,fnsM (cv n) [.mk o x bs ks al] [] [-1] b)
  else if o=5 then
   let q:=cv n s (ks.getD bs.length default) (fnsM (cv n) (ks.take bs.length) bs bs b)
   (letsC b.fns.length (outside (ks.take bs.length) bs) s bs bs.length q.1,q.2)
  else if o=4/\(ks.getD 0 default).op=2 then
   let q:=cv n s (ks.getD 1 default) (fnsM (cv n) (ks.take 1) [] bs b)
   (.mk 4 0 bs [closC (b.fns.length:Int) (outside (ks.take 1) []) s,q.1] [],q.2)
  else (.mk o x bs (Q0o (cv n s) ks ks.length b).1 al,(Q0o (cv n s) ks ks.length b).2)
structure FragC (l:Lab):Prop where
 sh:shpQ l
 rc:l.op=5->∀i,i < l.binds.length->l.ops[i]?=some 2
mutual
def lamN:Tr->Nat
 |.mk o _ _ k _=>(if o=2 then 1 else 0)+lamNs k
def lamNs:List Tr->Nat
 |[]=>0
 |t::l=>lamN t+lamNs l
end
mutual
theorem Qcu:∀t:Tr,lamN t<=cntN t
 |.mk o x b k a=>by
  have:=Q2z k
  simp only[lamN,cntN]
  split <;> omega
theorem Q2z:∀l:List Tr,lamNs l<=cntNs l
 |[]=>Nat.le_refl _
 |t::l=>by
  have h1:=Qcu t
  have h2:=Q2z l
  simp only[lamNs,cntNs];omega
end
theorem Q5e(l:List Tr)(t:Tr):lamNs (l++[t])=lamNs l+lamN t:=by
 induction l with
 |nil=>simp[lamNs]
 |cons a l ih=>simp only[List.cons_append,lamNs,ih];omega
theorem Q30(l:List Tr)(t:Tr):cntNs (l++[t])=cntNs l+cntN t:=by
 induction l with
 |nil=>simp[cntNs]
 |cons a l ih=>simp only[List.cons_append,cntNs,ih];omega
theorem Q27(l r:List Tr):cntNs (l++r)=cntNs l+cntNs r:=by
 induction l with
 |nil=>simp[cntNs]
 |cons a l ih=>simp only[List.cons_append,cntNs,ih];omega
theorem Q2h{l:List Tr}{i:Nat}(h:i < l.length):l.take (i+1)=l.take i++[l.getD i default]:=by
 rw[List.take_add_one,List.getD_eq_getElem?_getD,List.getElem?_eq_getElem h];rfl
theorem Qi2{l:List Tr}{i:Nat}(h:i < l.length):cntN (l.getD i default)<=cntNs l:=by
 have h1:=Q2h h
 have h2:=List.take_append_drop (i+1) l
 have h3:cntNs l=cntNs (l.take i)+cntN (l.getD i default)+cntNs (l.drop (i+1)):=by
  conv=>lhs;rw[←h2,Q27,h1,Q30]
 omega
theorem Q3q(t:Tr):1<=cntN t:=by cases t;simp[cntN]
theorem Q3l(l:List Tr):l.length<=cntNs l:=by
 induction l with
 |nil=>simp
 |cons a l ih=>have:=Q3q a;simp only[List.length_cons,cntNs];omega
theorem Q3y(names:List Int):∀k,(newF names k).length=k
 |0=>rfl
 |k+1=>by simp[newF,Q3y names k]
theorem Q3x(fns:List FnD)(j:Nat)(ps:List Int)(e:List Ex):(putD fns j ps e).length=fns.length:=by simp[putD]
theorem Q8f{bs:List Int}:∀{ks:List Tr},(∀i,i < bs.length->(ks.map Tr.op)[i]?=some 2)->∀f∈ks.take bs.length,f.op=2:=fun {ks} h f hf=>by
 obtain⟨i,hi,rfl⟩:=List.mem_iff_getElem.1 hf
 have hi2:i < bs.length:=by simp at hi;omega
 have:=h i hi2
 simp only[List.getElem_take]
 rw[List.getElem?_map]at this
 have hik:i < ks.length:=by simp at hi;omega
 rw[List.getElem?_eq_getElem hik]at this
 simpa using this
structure IsLam (f:Tr):Prop where
 op:f.op=2
 k:∃t,f.kids=[t]
theorem Q2d{f:Tr}(h:allT FragC f)(ho:f.op=2):IsLam f:=by
 refine⟨ho,?_⟩
 have:=(Q12 h).sh
 obtain⟨o,n,b,k,a⟩:=f
 simp only[Tr.op]at ho
 subst ho
 have h2:ShN 2 n b (k.map Tr.op).length a:=this
 have:=h2.lam.1
 simp at this
 match k,this with
 |[t],_=>exact⟨t,rfl⟩
theorem Qa1{f:Tr}(h:IsLam f):lamN f=1+lamN (f.kids.getD 0 default)/\cntN f=1+cntN (f.kids.getD 0 default):=by
 obtain⟨o,n,b,k,a⟩:=f
 obtain⟨ho,t,hk⟩:=h
 simp only[Tr.op,Tr.kids]at ho hk
 subst ho;subst hk
 constructor <;> simp[lamN,lamNs,cntN,cntNs] <;> omega
structure MovB (b b':Bs)(k:Nat):Prop where
 len:b'.fns.length=b.fns.length+k
 nx:b'.next=b.next+k
theorem MovB.trans{a b c:Bs}{i j:Nat}(h:MovB a b i)(h2:MovB b c j):MovB a c (i+j):=⟨by rw[h2.len,h.len];omega,by rw[h2.nx,h.nx];push_cast;omega⟩
theorem Q5p{cv:Sc->Tr->Bs->Tr×Bs}{needs group:List Int}{base:Nat}{fns:List Tr}(hl:∀f∈fns,IsLam f)(hcv:∀f∈fns,∀s b,MovB b (cv s (f.kids.getD 0 default) b).2 (lamN (f.kids.getD 0 default)))(b:Bs):∀i,i<=fns.length->(Q1f cv needs group base fns i b).fns.length+i=b.fns.length+lamNs (fns.take i)/\(Q1f cv needs group base fns i b).next=b.next+lamNs (fns.take i)
 |0,_=>by simp[Q1f,lamNs]
 |i+1,h=>by
  obtain⟨h1,h2⟩:=Q5p (needs:=needs) (group:=group) (base:=base) hl hcv b i (by omega)
  have hm:fns.getD i default∈fns:=by rw[List.getD_eq_getElem?_getD,List.getElem?_eq_getElem (by omega)];exact List.getElem_mem _
  have h3:=hcv _ hm (scF needs group base (Q1f cv needs group base fns i b).next) { (Q1f cv needs group base fns i b)with next:=(Q1f cv needs group base fns i b).next+1 }
  have h4:=(Qa1 (hl _ hm)).1
  rw[Q2h (by omega),Q5e]
  simp only[Q1f,Q76,Q3x]
  obtain⟨h5,h6⟩:=h3
  simp only at h5 h6
  omega
theorem Q4x{cv:Sc->Tr->Bs->Tr×Bs}{fns:List Tr}{group names:List Int}(hl:∀f∈fns,IsLam f)(hcv:∀f∈fns,∀s b,MovB b (cv s (f.kids.getD 0 default) b).2 (lamN (f.kids.getD 0 default)))(b:Bs):MovB b (fnsM cv fns group names b) (lamNs fns):=by
 have h:=Q5p (needs:=outside fns group) (group:=group) (base:=b.fns.length) hl hcv { b with fns:=b.fns++newF names fns.length } fns.length (Nat.le_refl _)
 rw[List.take_length]at h
 simp only[List.length_append,Q3y]at h
 constructor
 ·simp only[fnsM];omega
 ·simp only[fnsM];omega
theorem Q5s{cv:Tr->Bs->Tr×Bs}{ks:List Tr}(hcv:∀t∈ks,∀b,MovB b (cv t b).2 (lamN t))(b:Bs):∀i,i<=ks.length->MovB b (Q0o cv ks i b).2 (lamNs (ks.take i))/\(Q0o cv ks i b).1.length=i
 |0,_=>⟨⟨by simp[Q0o,lamNs],by simp[Q0o,lamNs]⟩,rfl⟩
 |i+1,h=>by
  obtain⟨h1,h2⟩:=Q5s hcv b i (by omega)
  have hm:ks.getD i default∈ks:=by rw[List.getD_eq_getElem?_getD,List.getElem?_eq_getElem (by omega)];exact List.getElem_mem _
  rw[Q2h (by omega),Q5e]
  exact⟨h1.trans (hcv _ hm _),by simp[Q0o,h2]⟩
theorem Q3z{l:List Tr}{i:Nat}(h:i < l.length):l.getD i default∈l:=by rw[List.getD_eq_getElem?_getD,List.getElem?_eq_getElem h];exact List.getElem_mem _
theorem Q40{f:Tr}(h:IsLam f)(ha:allT FragC f):allT FragC (f.kids.getD 0 default):=by
 obtain⟨t,ht⟩:=h.k
 exact Q23 ha (by rw[ht];simp)
theorem Q5t{l:List Tr}{t:Tr}(h:t∈l):cntN t<=cntNs l:=by
 obtain⟨i,hi,rfl⟩:=List.mem_iff_getElem.1 h
 have:=Qi2 hi
 rwa [List.getD_eq_getElem?_getD,List.getElem?_eq_getElem hi]at this
theorem Q52:∀(n:Nat)(t:Tr),cntN t<=n->allT FragC t->∀(s:Sc)(b:Bs),MovB b (cv n s t b).2 (lamN t)
 |0,t,h,_=>by have:=Q3q t;omega
 |n+1,.mk o x bs ks al,h,ht=>fun s b=>by
  have F:=Q12 ht
  have hk:∀t∈ks,allT FragC t:=fun t hm=>Q56 ht hm
  have hn:∀t∈ks,cntN t<=n:=fun t hm=>by have:=Q5t hm;simp only[cntN]at h;omega
  have ih:∀t∈ks,∀s b,MovB b (cv n s t b).2 (lamN t):=fun t hm=>Q52 n t (hn t hm) (hk t hm)
  have ihf:∀f∈ks,IsLam f->∀s b,MovB b (cv n s (f.kids.getD 0 default) b).2 (lamN (f.kids.getD 0 default)):=fun f hm hl=>by
   have h1:=(Qa1 hl).2
   have h2:=hn f hm
   exact Q52 n _ (by omega) (Q40 hl (hk f hm))
  simp only[cv]
  by_cases e0:o=0
  ·rw[if_pos e0]
   subst e0
   have hs:ShN 0 x bs (ks.map Tr.op).length al:=F.sh
   have hz:=(hs.leaf (.inl rfl)).1
   have:ks=[]:=by simpa using hz
   subst this
   exact⟨by simp[lamN,lamNs],by simp[lamN,lamNs]⟩
  rw[if_neg e0]
  by_cases e2:o=2
  ·rw[if_pos e2]
   have hl:IsLam (.mk o x bs ks al):=Q2d ht e2
   have h1:=(Qa1 hl).2
   have:=Q4x (cv:=cv n) (fns:=[.mk o x bs ks al]) (group:=[]) (names:=[-1]) (fun f hf=>by simp at hf;subst hf;exact hl) (fun f hf=>by
    simp at hf;subst hf
    exact Q52 n _ (by omega) (Q40 hl ht)) b
   simpa[lamNs]using this
  rw[if_neg e2]
  have hlam:lamN (.mk o x bs ks al)=lamNs ks:=by simp[lamN,e2]
  rw[hlam]
  by_cases e5:o=5
  ·rw[if_pos e5]
   subst e5
   have hs:ShN 5 x bs (ks.map Tr.op).length al:=F.sh
   have hkl:ks.length=bs.length+1:=by have:=hs.recs.1;simpa using this
   have hfl:∀f∈ks.take bs.length,IsLam f:=fun f hf=>Q2d (hk f (List.mem_of_mem_take hf)) (Q8f (F.rc rfl) f hf)
   have h1:=Q4x (cv:=cv n) (fns:=ks.take bs.length) (group:=bs) (names:=bs) hfl (fun f hf=>ihf f (List.mem_of_mem_take hf) (hfl f hf)) b
   have h2:=ih _ (Q3z (l:=ks) (i:=bs.length) (by omega)) s (fnsM (cv n) (ks.take bs.length) bs bs b)
   have h3:=Q2h (l:=ks) (i:=bs.length) (by omega)
   rw[List.take_of_length_le (by omega)]at h3
   have h4:=h1.trans h2
   rw[←Q5e,←h3]at h4
   exact h4
  rw[if_neg e5]
  by_cases e4:o=4/\(ks.getD 0 default).op=2
  ·rw[if_pos e4]
   obtain⟨e4,e40⟩:=e4
   subst e4
   have hs:ShN 4 x bs (ks.map Tr.op).length al:=F.sh
   have hkl:ks.length=2:=by have:=hs.lett.1;simpa using this
   match ks,hkl with
   |[k0,k1],_=>
    have hl:IsLam k0:=Q2d (hk k0 (by simp)) (by simpa using e40)
    have h1:=Q4x (cv:=cv n) (fns:=[k0]) (group:=[]) (names:=bs) (fun f hf=>by simp at hf;subst hf;exact hl) (fun f hf=>by simp at hf;subst hf;exact ihf f (by simp) hl) b
    have h2:=ih k1 (by simp) s (fnsM (cv n) [k0] [] bs b)
    have h4:=h1.trans h2
    simpa[lamNs]using h4
  rw[if_neg e4]
  have:=(Q5s (cv:=cv n s) (ks:=ks) (fun t hm=>ih t hm s) b ks.length (Nat.le_refl _)).1
  rwa [List.take_length]at this
theorem Qbs{e:List Ex}(h:check e=0):allT FragC (grow e):=Qat (Q1m h) fun x hx=>by
 have hs:=Qh1 h x hx
 obtain⟨_,h2,_,_⟩:=Q4g h
 have h3:=h2 x hx
 refine⟨⟨⟨x.kids,by simp[labE],hs⟩⟩,fun h5 i hi=>?_⟩
 simp only[labE]at h5 hi ⊢
 have h4:Q10 e x=0:=by
  unfold Q0m at h3
  split at h3
  ·cases h3
  ·exact h3
 unfold Q10 at h4
 rw[if_neg (by rw[hs];simp)]at h4
 split at h4
 ·exact absurd h4 (by assumption)
 split at h4
 ·cases h4
 ·rename_i _ hb
  have hb:(List.range x.binds.length).any (Q1n e x)=false:=by simpa using hb
  have hb2:=List.any_eq_false.1 hb i (List.mem_range.2 hi)
  simp only[Q1n,Bool.or_eq_true,not_or]at hb2
  have h6:=hb2.1
  have hkl:x.kids.length=x.binds.length+1:=by
   have:ShN 5 x.n x.binds x.kids.length x.alts:=⟨⟨x.kids,rfl,by rw[←h5];exact hs⟩⟩
   exact this.recs.1
  have hil:i < x.kids.length:=by omega
  have hkk:=Qff (Q1m h).k hx _ (List.getElem_mem hil)
  have h7:x.kids.getD i 0=x.kids[i]:=by rw[List.getD_eq_getElem?_getD,List.getElem?_eq_getElem hil];rfl
  rw[h7]at h6
  rw[List.getElem?_map,List.getElem?_eq_getElem hil,Option.map_some,op_grow e _ (by omega)]
  simpa[h5]using h6
theorem Qdd{c:Nat}:∀{l:List Tr},(∀t∈l,cntN t<=c)->cntNs l<=l.length * c
 |[],_=>by simp[cntNs]
 |t::l,h=>by
  have h1:=h t (by simp)
  have h2:=Qdd (l:=l) (c:=c) fun t ht=>h t (by simp[ht])
  simp only[cntNs,List.length_cons,Nat.add_mul,Nat.one_mul];omega
theorem Q3w(self:Int):∀k,(Q2n self k).length=k
 |0=>rfl
 |k+1=>by simp[Q2n,Q3w self k]
theorem Q7o(self:Int):∀k,cntNs (Q2n self k)=2 * k
 |0=>rfl
 |k+1=>by
  simp only[Q2n,Q30,Q7o self k,slotT,refT,cntN,cntNs];omega
theorem okT_ref(id:Int):okT (refT id):=by simp[refT,okT,okTs]
theorem Qch(a b:Int):okT (slotT a b):=by simp[slotT,refT,okT,okTs]
theorem Q7s(self:Int):∀k,okTs (Q2n self k)
 |0=>trivial
 |k+1=>by
  rw[Q1v]
  intro t ht
  simp only[Q2n,List.mem_append,List.mem_singleton]at ht
  rcases ht with ht|rfl
  ·exact Q1v.1 (Q7s self k) t ht
  ·exact Qch _ _
theorem Qaz{s:Sc}(h:s.many<=4096)(id:Int):cntN (varC s id)<=8193/\okT (varC s id):=by
 unfold varC
 split
 ·exact⟨by simp[refT,cntN,cntNs],okT_ref _⟩
 ·split
  ·refine⟨?_,?_⟩
   ·simp only[cntN,Q7o];omega
   ·simp only[okT,Q3w]
    exact⟨by simp,by omega,by simp,⟨by simp,by simp⟩,Q7s _ _⟩
  ·exact⟨by simp[slotT,refT,cntN,cntNs],Qch _ _⟩
theorem Q9a{s:Sc}(h:s.many<=4096)(fn:Int){needs:List Int}(hn:needs.length<=4096):cntN (closC fn needs s)<=33558529/\okT (closC fn needs s):=by
 have h1:cntNs (needs.map (varC s))<=(needs.map (varC s)).length * 8193:=Qdd fun t ht=>by
  obtain⟨x,_,rfl⟩:=List.mem_map.1 ht
  exact (Qaz h x).1
 rw[List.length_map]at h1
 have h2:needs.length * 8193<=4096 * 8193:=Nat.mul_le_mul_right _ hn
 refine⟨?_,?_⟩
 ·simp only[closC,cntN];omega
 ·simp only[closC,okT,List.length_map]
  refine⟨by simp,by omega,by simp,⟨by simp,by simp⟩,Q1v.2 fun t ht=>?_⟩
  obtain⟨x,_,rfl⟩:=List.mem_map.1 ht
  exact (Qaz h x).2
theorem Q7f(group:List Int):∀(l out:List Int),(l.foldl (addN1 group) out).length<=out.length+l.length
 |[],out=>by simp
 |n::l,out=>by
  have:=Q7f group l (addN1 group out n)
  have h2:(addN1 group out n).length<=out.length+1:=by unfold addN1;split <;> simp
  simp only[List.foldl_cons,List.length_cons];omega
theorem Qhb(group out:List Int)(f:Tr):(outF group out f).length<=out.length+cntN f:=by
 have h1:=Q7f group (Q1z f) out
 have h2:=Q5n f
 have h3:=Q1k f []
 simp at h3
 unfold outF;omega
theorem Q8p(group:List Int):∀(l:List Tr)(out:List Int),(l.foldl (outF group) out).length<=out.length+cntNs l
 |[],out=>by simp[cntNs]
 |f::l,out=>by
  have h1:=Q8p group l (outF group out f)
  have h2:=Qhb group out f
  simp only[List.foldl_cons,cntNs];omega
theorem Q1a(fns:List Tr)(group:List Int):(outside fns group).length<=cntNs fns:=by
 have:=Q8p group fns []
 unfold outside
 rw[List.length_mergeSort]
 simpa using this
theorem Qcp{s:Sc}(h:s.many<=4096)(base:Nat){needs:List Int}(hn:needs.length<=4096)(binds:List Int):∀(i:Nat)(body:Tr),okT body->cntN (letsC base needs s binds i body)<=cntN body+i * 33558530/\okT (letsC base needs s binds i body)
 |0,body,hb=>⟨by simp[letsC],hb⟩
 |i+1,body,hb=>by
  have hc:=Q9a h ((base+i:Nat):Int) hn
  have:=Qcp h base hn binds i (.mk 4 0 [binds.getD i 0] [closC ((base+i:Nat):Int) needs s,body] []) (by
   simp only[okT,okTs]
   exact⟨by simp,by simp,by simp,⟨by simp,by simp⟩,hc.2,hb,trivial⟩)
  refine⟨?_,this.2⟩
  have h1:=this.1
  have h2:=hc.1
  simp only[letsC]
  simp only[cntN,cntNs]at h1
  rw[Nat.add_mul];omega
theorem Q6u{o n:Int}{b:List Int}{k:List Tr}{a:List Alt}(h:okT (.mk o n b k a)):∀t∈k,okT t:=Q1v.1 h.2.2.2.2
theorem Qai{cv:Tr->Bs->Tr×Bs}{ks:List Tr}{c:Nat}(hcv:∀t∈ks,∀b,cntN (cv t b).1<=c * cntN t/\okT (cv t b).1)(b:Bs):∀i,i<=ks.length->cntNs (Q0o cv ks i b).1<=c * cntNs (ks.take i)/\okTs (Q0o cv ks i b).1/\(Q0o cv ks i b).1.length=i
 |0,_=>⟨by simp[Q0o,cntNs],trivial,rfl⟩
 |i+1,h=>by
  obtain⟨h1,h2,h3⟩:=Qai hcv b i (by omega)
  have hm:=hcv _ (Q3z (l:=ks) (i:=i) (by omega)) (Q0o cv ks i b).2
  rw[Q2h (by omega),Q30]
  simp only[Q0o,Q30]
  refine⟨by rw[Nat.mul_add];omega,Q1v.2 fun t ht=>?_,by simp[h3]⟩
  rcases List.mem_append.1 ht with ht|ht
  ·exact Q1v.1 h2 t ht
  ·simp at ht;subst ht;exact hm.2
theorem cv_sz:∀(n:Nat)(t:Tr),cntN t<=n->cntN t<=4096->allT FragC t->okT t->∀(s:Sc)(b:Bs),s.many<=4096->cntN (cv n s t b).1<=33558600 * cntN t/\okT (cv n s t b).1
 |0,t,h,_,_,_=>by have:=Q3q t;omega
 |n+1,.mk o x bs ks al,h,h4k,ht,hok=>fun s b hs=>by
  have F:=Q12 ht
  have hk:∀t∈ks,allT FragC t:=fun t hm=>Q56 ht hm
  have hcn:cntN (.mk o x bs ks al)=cntNs ks+1:=by simp only[cntN] <;> omega
  have hn:∀t∈ks,cntN t<=n:=fun t hm=>by have:=Q5t hm;omega
  have hn4:∀t∈ks,cntN t<=4096:=fun t hm=>by have:=Q5t hm;omega
  have ih:∀t∈ks,∀s b,s.many<=4096->cntN (cv n s t b).1<=33558600 * cntN t/\okT (cv n s t b).1:=fun t hm=>cv_sz n t (hn t hm) (hn4 t hm) (hk t hm) (Q6u hok t hm)
  simp only[cv]
  by_cases e0:o=0
  ·rw[if_pos e0]
   have:=Qaz hs x
   exact⟨by rw[hcn];show cntN (varC s x)<=_;omega,this.2⟩
  rw[if_neg e0]
  by_cases e2:o=2
  ·rw[if_pos e2]
   have h1:=Q1a [.mk o x bs ks al] []
   simp only[cntNs]at h1
   have:=Q9a hs (b.fns.length:Int) (needs:=outside [.mk o x bs ks al] []) (by omega)
   exact⟨by simp only;rw[hcn];omega,this.2⟩
  rw[if_neg e2]
  by_cases e5:o=5
  ·rw[if_pos e5]
   subst e5
   have hsh:ShN 5 x bs (ks.map Tr.op).length al:=F.sh
   have hkl:ks.length=bs.length+1:=by have:=hsh.recs.1;simpa using this
   have h1:=ih _ (Q3z (l:=ks) (i:=bs.length) (by omega)) s (fnsM (cv n) (ks.take bs.length) bs bs b) hs
   have h3:=Q2h (l:=ks) (i:=bs.length) (by omega)
   rw[List.take_of_length_le (by omega)]at h3
   have h5:cntNs ks=cntNs (ks.take bs.length)+cntN (ks.getD bs.length default):=by conv=>lhs;rw[h3,Q30]
   have h6:=Q3l (ks.take bs.length)
   rw[List.length_take,Nat.min_eq_left (by omega)]at h6
   have h7:=Q1a (ks.take bs.length) bs
   have h8:=Qcp hs b.fns.length (needs:=outside (ks.take bs.length) bs) (by omega) bs bs.length _ h1.2
   have h9:bs.length * 33558530<=cntNs (ks.take bs.length) * 33558530:=Nat.mul_le_mul_right _ h6
   refine⟨?_,h8.2⟩
   have h10:=h8.1
   have h11:=h1.1
   simp only
   rw[hcn]
   omega
  rw[if_neg e5]
  by_cases e4:o=4/\(ks.getD 0 default).op=2
  ·rw[if_pos e4]
   obtain⟨e4,e40⟩:=e4
   subst e4
   have hsh:ShN 4 x bs (ks.map Tr.op).length al:=F.sh
   have hkl:ks.length=2:=by have:=hsh.lett.1;simpa using this
   obtain⟨k0,k1,rfl⟩:∃a b,ks=[a,b]:=by match ks,hkl with|[a,b],_=>exact⟨a,b,rfl⟩
   have h1:=Q1a [k0] []
   simp only[cntNs]at h1
   have h0:=hn4 k0 (.head _)
   have h2:=Q9a hs (b.fns.length:Int) (needs:=outside [k0] []) (by omega)
   have h3:=ih k1 (.tail _ (.head _)) s (fnsM (cv n) [k0] [] bs b) hs
   have h5:=Q3q k0
   have h6:=h2.1
   have h7:=h3.1
   refine⟨?_,?_⟩
   ·show cntN (.mk 4 0 bs [closC (b.fns.length:Int) (outside [k0] []) s,(cv n s k1 (fnsM (cv n) [k0] [] bs b)).1] [])<=33558600 * cntN (.mk 4 x bs [k0,k1] al)
    simp only[cntN,cntNs]
    omega
   ·show okT (.mk 4 0 bs [closC (b.fns.length:Int) (outside [k0] []) s,(cv n s k1 (fnsM (cv n) [k0] [] bs b)).1] [])
    simp only[okT,okTs]
    exact⟨hok.1,by simp,by simp,⟨by simp,by have:=hok.1;simp;omega⟩,h2.2,h3.2,trivial⟩
  rw[if_neg e4]
  have:=Qai (cv:=cv n s) (ks:=ks) (c:=33558600) (fun t hm b=>ih t hm s b hs) b ks.length (Nat.le_refl _)
  rw[List.take_length]at this
  obtain⟨h1,h2,h3⟩:=this
  refine⟨?_,?_⟩
  ·simp only[cntN]
   simp only[cntN]at hcn
   omega
  ·simp only[okT]
   exact⟨hok.1,by rw[h3];exact hok.2.1,hok.2.2.1,hok.2.2.2.1,h2⟩
theorem Qcd(id:Int):APure Tryz.prog Γc 72 [.one (int id)] (.one (.box (cTr (refT id)))):=by
 intro ou
 refine AFn.walk 6 tabOk Tryz.func72 rfl (by kernel_rfl) rfl rfl fun hou=>?_
 repeat ((fail_if_success ((with_reducible refine oj ?_);refine AOps.atDst 5 rfl ?_));first|refine zO ?_)
 refine zO ?_
 refine AOps.freeze1 (.l 0) 5 rfl rfl ?_
 refine zA ?_
 exact APure.fin rfl (.one (Wk.box (.cons (.refl _) (.cons (.refl _) (.cons (.nilS 1) (.cons (.nilS 1) (.cons (.nilS 2) .nil))))))) (by simp) hou rfl
def encPl (p:Int×Int):FV:=.agg [int p.1,int p.2]
theorem Qg8(b:Int×Int)(p:Abs.Id->Prop):(encPl b).ids p:=by simp[encPl]
@[simp] theorem Q35 (p:Abs.Id->Prop) (ck:Nat) (l:List (Nat×Int×(Int×Int))):AObj.ids p (.map ck (encI encPl l)):=Q8z encPl Qg8 p ck l
def SR (ou:Outer)(ks:Nat)(s:Sc):Prop:=∃km ck l,ou ks=some (.cells [int s.self,.mp (.o km),int (s.many:Int)])/\ou km=some (.map ck (encI encPl l))/\IMOk s.pl ck l
theorem Qgz(s:Sc)(hm:s.many<=4096){ou:Outer}{ks:Nat}(hs:SR ou ks s):AFn Tryz.prog Γc 73 [.one (.ptr (.o ks) 0)] ou (fun r ou'=>r=.one (.sl 1 ((Q2n s.self s.many).map cB))/\ou'=ou):=by
 obtain⟨km,ck,l,h1,h2,h3⟩:=hs
 refine AFn.walk 26 tabOk Tryz.func73 rfl (by kernel_rfl) rfl rfl fun hou=>?_
 repeat' first|refine zN ?_|((with_reducible refine oj ?_);first|refine zix ?_|refine zow rfl rfl h1 ?_)
 refine ACode.growS 3 68 1 rfl ?_
 refine ACode.loopR hΓc (α:=Nat) (fun j=>[(9,.one (int j)),(8,.one (int (s.many:Int))),(3,.one (.gs 1 ((Q2n s.self j).map cB) (.l 0))),(0,.one (.ptr (.o ks) 0))])
  (fun j=>⟨1,[(0,.tok 68 1 j)],ou⟩) (fun m j=>j<=s.many/\m=s.many - j) (a0:=0) (ρ:=_root_.id) ⟨by omega,rfl⟩
  (LessR.of rfl (FrSub.cons rfl (.ofEq rfl) (FrSub.cons rfl (.ofEq rfl) (FrSub.consGs rfl rfl (by simp) (FrSub.cons rfl (.ofEq rfl) .nil)))) (by simp) zLO rfl rfl hou) fun m j hj=>?_
 obtain⟨hjl,rfl⟩:=hj
 refine zA ?_
 refine ACode.cond rfl (fun hb2=>?_) (fun hb2=>?_)
 ·have hlt:j < s.many:=by simpa using hb2
  have hsl:=Q3w s.self j
  repeat' first|refine zN ?_|((with_reducible refine oj ?_);first|refine zix ?_|refine zow rfl rfl h1 ?_)
  refine zca hΓc (Qcd s.self) hou ?_
  repeat ((fail_if_success ((with_reducible refine oj ?_);refine AOps.atDst 21 rfl ?_));first|refine zO ?_)
  refine zO ?_
  refine AOps.freeze1 (.l 1) 21 rfl rfl ?_
  refine AOps.wk 21 rfl (y:=.one (.box (cTr (slotT s.self j)))) (.one (Wk.box (.cons (.refl _) (.cons (.refl _) (.cons (.nilS 1) (.cons (.refl _) (.cons (.nilS 2) .nil))))))) ?_
  refine zA ?_
  refine AOps.app tabOk rfl rfl rfl rfl rfl rfl rfl rfl rfl (Base.gs' _ _ _ _ _ (by rfl) (by simp[hsl])) (.sl _ _) rfl (by simp[hsl];show _ * 8<=_;omega) (by simp[hsl];omega) ?_
  refine zM ?_
  exact cInv ⟨s.many - (j+1),j+1,fun _=>2,by omega,⟨by omega,rfl⟩,LessR.of rfl (FrSub.cons rfl (.ofEq rfl) (FrSub.cons rfl (.ofEq rfl) (FrSub.consGs (by simp[Q2n];rfl) rfl (by simp) (FrSub.cons rfl (.ofEq rfl) .nil)))) (by simp) (LoSub.cons rfl (by simp[AObj.ren,Q3w];rfl) rfl (by simp) .nil) rfl rfl hou⟩
 ·have hlt:j=s.many:=by simp at hb2;omega
  subst hlt
  refine zA ?_
  exact AFn.fin' rfl (.one (.gsE rfl)) (by simp) hou ⟨rfl,rfl⟩
abbrev nilS2:AC:=.lit (.slice none 0 0)
theorem zeroP(w:World)(C:Ctx):RF w C (.agg [int 0,int 0]) (.agg #[.int .i64 0,.int .i64 0]):=⟨[.int .i64 0,.int .i64 0],rfl,_,_,rfl,⟨rfl,rfl⟩,_,_,rfl,⟨rfl,rfl⟩,rfl⟩
theorem Q6l(s:Sc)(hm:s.many<=4096){ou:Outer}{ks:Nat}(hs:SR ou ks s)(id:Int):AFn Tryz.prog Γc 57 [.one (.ptr (.o ks) 0),.one (int id)] ou (fun r ou'=>r=.one (.box (cTr (varC s id)))/\ou'=ou):=by
 have hsl:=Qgz s hm hs
 obtain⟨km,ck,l,h1,h2,h3⟩:=hs
 refine AFn.walk 41 tabOk Tryz.func57 rfl (by kernel_rfl) rfl rfl fun hou=>?_
 repeat' first|refine zN ?_|((with_reducible refine oj ?_);first|refine zix ?_|refine zow rfl rfl h1 ?_)
 cases hp:s.pl id with
 |none=>
  have hv:varC s id=refT id:=by unfold varC;rw[hp]
  refine zS (AStep.lookI encPl (cm:=true) (v:=.agg [int 0,int 0]) rfl Tryz.underlying83 Tryz.underlying3 rfl h2 rfl (by kernel_rfl) zeroP h3 (by rw[hp])) ?_
  rw[hp]
  refine zA ?_
  refine zca hΓc (Qcd id) hou ?_
  refine zA ?_
  rw[hv]
  exact AFn.fin' rfl (.refl _) (by simp) hou ⟨rfl,rfl⟩
 |some p=>
  obtain⟨sl,fn⟩:=p
  refine zS (AStep.lookI encPl (cm:=true) (v:=.agg [int sl,int fn]) rfl Tryz.underlying83 Tryz.underlying3 rfl h2 rfl (by kernel_rfl) zeroP h3 (by rw[hp];rfl)) ?_
  rw[hp]
  refine zA ?_
  refine ACode.cond rfl (fun hb=>?_) (fun hb=>?_)
  ·have h0:0<=fn:=by simpa using hb
   have hv:varC s id=.mk 15 fn [] (Q2n s.self s.many) []:=by unfold varC;rw[hp];simp only;rw[if_pos h0]
   refine zA ?_
   refine ACode.drawXH (va:=.one (.ptr (.l 1) 0)) (σ1:=(⟨2,[(1,.cells [int 15,int fn,nilS2,.sl 1 ((Q2n s.self s.many).map cB),nilS2]),(0,.cells [int sl,int fn]),(0,.cells (ti133.zero.map .lit))],ou⟩)) tabOk 6 5 [(3,.one (.sl 1 ((Q2n s.self s.many).map cB)))] follows (by kernel_rfl) rfl rfl rfl rfl rfl rfl rfl (HStep.auto tabOk rfl) ?_ ?_ ?_
   ·exact .callK hΓc hsl hou (by simp) rfl rfl rfl rfl rfl rfl .nil
   ·exact .callK hΓc hsl hou (by simp) rfl rfl rfl rfl rfl rfl .nil
   refine AOps.freeze1 (.l 1) 30 rfl rfl ?_
   refine zA ?_
   rw[hv]
   exact AFn.fin' rfl (.one (Wk.box (.cons (.refl _) (.cons (.refl _) (.cons (.nilS 1) (.cons (.ofEq (by rw[←Q0a];rfl)) (.cons (.nilS 2) .nil))))))) (by simp) hou ⟨rfl,rfl⟩
  ·have h0:¬0<=fn:=by simpa using hb
   have hv:varC s id=slotT s.self sl:=by unfold varC;rw[hp];simp only;rw[if_neg h0]
   refine zA ?_
   refine ACode.drawXH (va:=.one (.ptr (.l 1) 0)) (σ1:=(⟨2,[(1,.cells [int 16,int sl,nilS2,.sl 1 [cB (refT s.self)],nilS2]),(0,.cells [int sl,int fn]),(0,.cells (ti133.zero.map .lit))],ou⟩)) tabOk 10 9 [(5,.one (int s.self)),(6,.one (.box (cTr (refT s.self))))] follows (by kernel_rfl) rfl rfl rfl rfl rfl rfl rfl (HStep.auto tabOk rfl) ?_ ?_ ?_
   ·exact .step rfl (zHP (zLD rfl rfl h1 rfl)) (.call hΓc (Qcd s.self) hou (by simp) rfl rfl rfl rfl rfl rfl .nil)
   ·exact .step rfl (zHP (zLD rfl rfl h1 rfl)) (.call hΓc (Qcd s.self) hou (by simp) rfl rfl rfl rfl rfl rfl .nil)
   refine AOps.freeze1 (.l 1) 40 rfl rfl ?_
   refine zA ?_
   rw[hv]
   exact AFn.fin' rfl (.one (Wk.box (.cons (.refl _) (.cons (.refl _) (.cons (.nilS 1) (.cons (.refl _) (.cons (.nilS 2) .nil))))))) (by simp) hou ⟨rfl,rfl⟩
def varsC (s:Sc)(l:List Int):List Tr:=l.map (varC s)
theorem Qej(s:Sc)(l:List Int):(varsC s l).length=l.length:=by simp[varsC]
theorem Qdp{s:Sc}{l:List Int}{j:Nat}{x:Int}(h:l[j]?=some x):varsC s (l.take (j+1))=varsC s (l.take j)++[varC s x]:=by rw[Q1c h];simp[varsC]
theorem Q5u(s:Sc)(hm:s.many<=4096){ou:Outer}{ks:Nat}(hs:SR ou ks s)(fn:Int)(needs:List Int)(hn:needs.length<=4096):AFn Tryz.prog Γc 59 [.one (int fn),.one (.sl 1 (needs.map cI)),.one (.ptr (.o ks) 0)] ou (fun r ou'=>r=.one (.box (cTr (closC fn needs s)))/\ou'=ou):=by
 refine AFn.walk 33 tabOk Tryz.func59 rfl (by kernel_rfl) rfl rfl fun hou=>?_
 refine zA ?_
 refine ACode.grow 0 3 68 1 rfl rfl ?_
 refine ACode.loopR hΓc (α:=Nat) (fun j=>[(15,.one (int j)),(14,.one (int (needs.map cI).length)),(13,.one (.sl 1 (needs.map cI))),(7,.one (.ptr (.l 0) 0)),(2,.one (.ptr (.o ks) 0))])
  (fun j=>⟨2,[(1,.tok 68 1 j),(0,.cells [int 15,int fn,nilS2,.gs 1 ((varsC s (needs.take j)).map cB) (.l 1),nilS2])],ou⟩) (fun m j=>j<=needs.length/\m=needs.length - j) (a0:=0) (ρ:=_root_.id) ⟨by omega,rfl⟩
  (LessR.of rfl zFS (by simp) ?_ rfl rfl hou) fun m j hj=>?_
 ·repeat' first|exact LoSub.nil|refine zlc ?_|refine zld ?_ ?_|rfl
  all_goals (simp[AObj.ren,renL,AC.ren];rfl)
 obtain⟨hjl,rfl⟩:=hj
 refine zA ?_
 refine ACode.cond rfl (fun hb2=>?_) (fun hb2=>?_)
 ·have hlt:j < needs.length:=by simpa using hb2
  obtain⟨x,hx⟩:=Q01 hlt
  have hv:=Q6l s hm hs x
  have hl:((varsC s (needs.take j)).map cB).length=j:=by simp[Qej];omega
  refine zA ?_
  refine zS (zIA rfl rfl rfl (by omega) (Q04 hx)) ?_
  refine zA ?_
  refine ACode.drawXH (va:=.one (.gs 1 ((varsC s (needs.take j)).map cB++[cB (varC s x)]) (.l 2))) (σ1:=((St.mk 2 [(1,.tok 68 1 j),(0,.cells [int 15,int fn,nilS2,.gs 1 ((varsC s (needs.take j)).map cB) (.l 1),nilS2])] ou).set (.l 1) .dead).push (.tok 68 1 ((varsC s (needs.take j)).map cB++[cB (varC s x)]).length))
   tabOk 10 9 [(7,.one (.box (cTr (varC s x))))] follows (by kernel_rfl) rfl rfl rfl rfl rfl rfl rfl ?_ ?_ ?_ ?_
  ·refine HStep.plain rfl (AStep.append (s:=1) (es:=(varsC s (needs.take j)).map cB) (news:=[cB (varC s x)]) (ti:=ti101) (σ:=⟨2,[(1,.tok 68 1 j),(0,.cells [int 15,int fn,nilS2,.gs 1 ((varsC s (needs.take j)).map cB) (.l 1),nilS2])],ou⟩) tabOk rfl rfl rfl rfl rfl rfl (Base.gs' _ 68 1 ((varsC s (needs.take j)).map cB) (.l 1) rfl hl.symm) (.sl _ _) rfl ?_ ?_)
   ·rw[hl];show (j+1) * 8<=_;omega
   ·rw[hl];show j+1<=_;omega
  ·exact .callK hΓc hv hou (by simp) rfl rfl rfl rfl rfl rfl .nil
  ·exact .callK hΓc hv hou (by simp) rfl rfl rfl rfl rfl rfl .nil
  refine zM ?_
  refine cInv ⟨needs.length - (j+1),j+1,fun k=>if k=1 then 2 else k,by omega,⟨by omega,rfl⟩,LessR.of rfl zFS (by simp) ?_ rfl rfl hou⟩
  repeat' first|exact LoSub.nil|refine zlc ?_|refine zld ?_ ?_|rfl
  ·simp only[AObj.ren,List.length_append,hl];rfl
  ·rw[Qdp hx];simp only[AObj.ren,renL,AC.ren,Q8n];rw[List.map_append];rfl
 ·have hlt:j=needs.length:=by simp at hb2;omega
  subst hlt
  rw[List.take_length]
  repeat ((fail_if_success ((with_reducible refine oj ?_);refine AOps.atDst 6 rfl ?_));first|refine zO ?_)
  refine AOps.freeze1 (.l 0) 32 rfl rfl ?_
  refine zA ?_
  refine AFn.fin' rfl (.one (Wk.box (.cons (.refl _) (.cons (.refl _) (.cons (.nilS 1) (.cons (.gsE (Q0a _).symm) (.cons (.nilS 2) .nil))))))) (by simp) hou ⟨rfl,rfl⟩
theorem lend_oa{σ:St}{k s:Nat}{es:List (List AC)}{oc:Option Nat}(hg:σ.get (.l k)=some (oaO s es oc))(hco:coO es oc)(hl:∀x∈es,x.length=s)(hi:idsS isO es):LendF σ (.one (oaC k s es oc)) (.one (.sl s es)):=by
 cases oc with
 |none=>
  have:es=[]:=hco
  subst this
  exact LendF.of (.one (.nilS s)) (by simp)
 |some cap=>exact LendF.arr hg rfl hl hi
theorem Q82{α β:Type}{g:β->α->β}{a:β}{l:List α}{i:Nat}{x:α}(h:l[i]?=some x):(l.take (i+1)).foldl g a=g ((l.take i).foldl g a) x:=by rw[Q1c h,List.foldl_append];rfl
def oS (fns:List Tr)(group:List Int)(i:Nat):List Int:=(fns.take i).foldl (outF group) []
def oT (group a l:List Int)(j:Nat):List Int:=(l.take j).foldl (addN1 group) a
theorem oS_len(fns:List Tr)(group:List Int)(i:Nat):(oS fns group i).length<=cntNs fns:=by
 have h1:=Q8p group (fns.take i) []
 have h2:cntNs fns=cntNs (fns.take i)+cntNs (fns.drop i):=by conv=>lhs;rw[←List.take_append_drop i fns,Q27]
 unfold oS
 simp at h1;omega
theorem oT_len(group a l:List Int)(j:Nat):(oT group a l j).length<=a.length+l.length:=by
 have h1:=Q7f group (l.take j) a
 have h2:(l.take j).length<=l.length:=by simp;omega
 unfold oT;omega
theorem oS_succ{fns:List Tr}{group:List Int}{i:Nat}{f:Tr}(h:fns[i]?=some f):oS fns group (i+1)=oT group (oS fns group i) (Q1z f) (Q1z f).length:=by
 unfold oS
 rw[Q82 h]
 unfold oT outF
 rw[List.take_length]
theorem oT_succ{group a l:List Int}{j:Nat}{x:Int}(h:l[j]?=some x):oT group a l (j+1)=addN1 group (oT group a l j) x:=by unfold oT;exact Q82 h
set_option maxHeartbeats 1000000 in
theorem Qdu(fns:List Tr)(group:List Int)(hf:∀f∈fns,okT f/\Q1j f<=1048576)(hc:cntNs fns<=4096)(hg:group.length<=1048576):
  APure Tryz.prog Γc 74 [.one (.sl 1 (fns.map cB)),.one (.sl 1 (group.map cI))] (.one (.sl 1 ((outside fns group).map cI))):=by
 have hfl:=Q3l fns
 intro ou
 refine AFn.walk 42 tabOk Tryz.func74 rfl (by kernel_rfl) rfl rfl fun hou=>?_
 refine zA ?_
 refine ACode.ghost ?_
 refine ACode.loopR hΓc (α:=Nat×Option Nat) (fun c=>[(12,.one (int c.1)),(11,.one (int (fns.map cB).length)),(10,.one (.sl 1 (fns.map cB))),(5,.one (oaC 0 1 ((oS fns group c.1).map cI) c.2)),(1,.one (.sl 1 (group.map cI)))])
  (fun c=>⟨1,[(0,oaO 1 ((oS fns group c.1).map cI) c.2)],ou⟩) (fun m c=>c.1<=fns.length/\coO ((oS fns group c.1).map cI) c.2/\m=fns.length - c.1) (a0:=(0,none)) (ρ:=_root_.id) ⟨by omega,rfl,rfl⟩ (LessR.of rfl ?_ (by simp) zLO rfl rfl hou) fun m c hcc=>?_
 ·(repeat' first|exact FrSub.nil|refine zfc ?_|refine zfo ?_|refine zfp ?_)
 obtain⟨i,oc⟩:=c
 obtain⟨hil,hco,rfl⟩:=hcc
 dsimp only at hil hco
 refine zA ?_
 refine ACode.cond rfl (fun hb2=>?_) (fun hb2=>?_)
 ·have hlt:i < fns.length:=by simpa using hb2
  obtain⟨f,hfi⟩:=Q01 hlt
  have hfm:=List.mem_of_getElem? hfi
  obtain⟨hf1,hf2⟩:=hf f hfm
  have hfc:=Q5t hfm
  have hcl:=Q1k f []
  have hFl:=Q5n f
  simp only[List.length_nil]at hcl
  have hF:=Qaw hΓc hΓcF Qes Qb4 f hf1 hf2 (by omega)
  have hSl:=oS_len fns group i
  obtain⟨fl,hfe⟩:∃fl,fl=Q1z f:=⟨_,rfl⟩
  rw[←hfe]at hF hFl
  refine zA ?_
  refine zS (zIA rfl rfl rfl (by omega) (Q04 hfi)) ?_
  refine zA ?_
  refine zca hΓc hF hou ?_
  refine zA ?_
  refine ACode.loopR hΓc (α:=Nat×Option Nat) (fun c=>[(19,.one (int c.1)),(18,.one (int (fl.map cI).length)),(17,.one (.sl 1 (fl.map cI))),(12,.one (int i)),(11,.one (int (fns.map cB).length)),(10,.one (.sl 1 (fns.map cB))),(5,.one (oaC 0 1 ((oT group (oS fns group i) fl c.1).map cI) c.2)),(1,.one (.sl 1 (group.map cI)))])
   (fun c=>⟨1,[(0,oaO 1 ((oT group (oS fns group i) fl c.1).map cI) c.2)],ou⟩) (fun m c=>c.1<=fl.length/\coO ((oT group (oS fns group i) fl c.1).map cI) c.2/\m=fl.length - c.1) (a0:=(0,oc)) (ρ:=_root_.id) ⟨by omega,hco,rfl⟩ (LessR.of rfl ?_ (by simp) ?_ rfl rfl hou) fun m c hcc=>?_
  ·(repeat' first|exact FrSub.nil|refine zfc ?_|refine zfo ?_|refine zfp ?_)
  ·repeat' first|exact LoSub.nil|refine zlc ?_|refine zld ?_ ?_|rfl
  obtain⟨j,oc2⟩:=c
  obtain⟨hjl,hco2,rfl⟩:=hcc
  dsimp only at hjl hco2
  refine zA ?_
  refine ACode.cond rfl (fun hb3=>?_) (fun hb3=>?_)
  ·have hlt2:j < fl.length:=by simpa using hb3
   obtain⟨x,hx⟩:=Q01 hlt2
   have hTl:=oT_len group (oS fns group i) fl j
   have hTs:=oT_succ (group:=group) (a:=oS fns group i) hx
   refine zA ?_
   refine zS (zIA rfl rfl rfl (by omega) (Q04 hx)) ?_
   refine zA ?_
   refine AOps.callS hΓc (Q4i hΓc (oT group (oS fns group i) fl j) (by omega) x) (Plain.lit _) rfl rfl rfl rfl rfl rfl (.cons (lend_oa rfl hco2 (fun y hy=>by obtain⟨z,_,rfl⟩:=List.mem_map.1 hy;rfl) (by simp)) (.cons (.refl (by simp)) .nil)) ?_
   have keep:(oT group (oS fns group i) fl j).contains x=true∨group.contains x=true->oT group (oS fns group i) fl (j+1)=oT group (oS fns group i) fl j:=fun h=>by
    rw[hTs];unfold addN1
    rw[if_neg]
    rcases h with h|h <;> rw[h] <;> simp
   cases hc1:(oT group (oS fns group i) fl j).contains x with
   |true=>
    have hk:=keep (.inl hc1)
    refine zM ?_
    exact cInv ⟨fl.length - (j+1),(j+1,oc2),_root_.id,by omega,⟨by omega,by dsimp only;rw[hk];exact hco2,rfl⟩,LessR.of rfl (by dsimp only;rw[hk];(repeat' first|exact FrSub.nil|refine zfc ?_|refine zfo ?_|refine zfp ?_)) (by simp) (by dsimp only;rw[hk];repeat' first|exact LoSub.nil|refine zlc ?_|refine zld ?_ ?_|rfl) rfl rfl hou⟩
   |false=>
    refine zM ?_
    refine zca hΓc (Q4i hΓc group hg x) hou ?_
    cases hc2:group.contains x with
    |true=>
     have hk:=keep (.inr hc2)
     refine zM ?_
     exact cInv ⟨fl.length - (j+1),(j+1,oc2),_root_.id,by omega,⟨by omega,by dsimp only;rw[hk];exact hco2,rfl⟩,LessR.of rfl (by dsimp only;rw[hk];(repeat' first|exact FrSub.nil|refine zfc ?_|refine zfo ?_|refine zfp ?_)) (by simp) (by dsimp only;rw[hk];repeat' first|exact LoSub.nil|refine zlc ?_|refine zld ?_ ?_|rfl) rfl rfl hou⟩
    |false=>
     have hk:oT group (oS fns group i) fl (j+1)=oT group (oS fns group i) fl j++[x]:=by rw[hTs];unfold addN1;rw[if_pos (by rw[hc1,hc2];rfl)]
     refine zM ?_
     refine AOps.appG (k:=0) (s:=1) (es:=(oT group (oS fns group i) fl j).map cI) (oc:=oc2) (news:=[cI x]) tabOk rfl rfl rfl rfl rfl rfl rfl rfl rfl rfl hco2 (fun y hy=>by obtain⟨z,_,rfl⟩:=List.mem_map.1 hy;rfl) (.sl 1 _) (by simp) rfl (by simp only[List.length_map,List.length_cons,List.length_nil];show (_+_) * 8<=_;omega) (by simp only[List.length_map,List.length_cons,List.length_nil];omega) fun cap hc=>?_
     rw[show ((oT group (oS fns group i) fl j).map cI++[cI x])=(oT group (oS fns group i) fl (j+1)).map cI by rw[hk];simp]at hc ⊢
     refine zM ?_
     exact cInv ⟨fl.length - (j+1),(j+1,some cap),fun _=>1,by omega,⟨by omega,hc,rfl⟩,LessR.of rfl zFS (by simp) zLO rfl rfl hou⟩
  ·have hlt2:j=fl.length:=by simp at hb3;omega
   subst hlt2
   have hk:=oS_succ (group:=group) hfi
   rw[←hfe]at hk
   rw[←hk]at hco2 ⊢
   refine zM ?_
   exact cInv ⟨fns.length - (i+1),(i+1,oc2),_root_.id,by omega,⟨by omega,hco2,rfl⟩,LessR.of rfl zFS (by simp) zLO rfl rfl hou⟩
 ·have hlt:i=fns.length:=by simp at hb2;omega
  subst hlt
  have hSl:=oS_len fns group fns.length
  obtain⟨zs,hz⟩:∃zs,zs=oS fns group fns.length:=⟨_,rfl⟩
  have ho:outside fns group=zs.mergeSort fun x y=>decide (x<=y):=by rw[hz];unfold outside oS;rw[List.take_length]
  rw[←hz]at hco hSl ⊢
  refine zA ?_
  cases oc with
  |none=>
   have h0:zs=[]:=by simpa[coO]using hco
   refine AOps.callNo rfl rfl rfl rfl rfl rfl Q3v Qb4 ?_
   refine zA ?_
   refine APure.fin rfl (.trans (.one (.nilS 1)) (.ofEq ?_)) (by simp) hou rfl
   rw[ho,h0];simp
  |some cap=>
   refine AOps.wk 39 rfl (y:=.one (.arr (.l 0) 1 0 zs.length cap)) (.ofEq (by simp[oaC])) ?_
   refine AOps.sortI (l:=zs) rfl rfl rfl rfl rfl rfl Q3v Qes rfl (by omega) ?_
   rw[←ho]
   refine AOps.wk 5 rfl (y:=.one (.arr (.l 0) 1 0 ((outside fns group).map iC).length cap)) (.ofEq (by rw[ho];simp[oaC])) ?_
   refine AOps.freezeArr (.l 0) 5 rfl (by simp) rfl ?_
   refine zA ?_
   exact APure.fin rfl (WkF.ofEq rfl) (by simp) hou rfl
end Go.Proofs.YtdpdlkgecmgokaaGreatDoor
namespace Go.Abs
theorem Qd6{s:Nat}:∀{rows:List (List AC)}{j off:Nat}(c:AC),(∀x∈rows,x.length=s)->j < rows.length->off < s->rows.flatten.set (j * s+off) c=(rows.set j ((rows.getD j []).set off c)).flatten
 |[],j,off,c,_,h,_=>by simp at h
 |r::rows,0,off,c,hl,h,ho=>by
  have:=hl r (by simp)
  simp only[Nat.zero_mul,Nat.zero_add,List.flatten_cons,List.set_cons_zero,List.getD_cons_zero]
  rw[List.set_append_left _ _ (by omega)]
 |r::rows,j+1,off,c,hl,h,ho=>by
  have h1:=hl r (by simp)
  simp only[List.flatten_cons,List.set_cons_succ,List.getD_cons_succ]
  have h2:(j+1) * s+off=s+(j * s+off):=by rw[Nat.add_mul];omega
  rw[h2,List.set_append_right _ _ (by omega),h1,Nat.add_sub_cancel_left,Qd6 c (fun x hx=>hl x (by simp[hx])) (by simpa using h) ho]
theorem Qg5{s:Nat}{rows:List (List AC)}(h:∀x∈rows,x.length=s):rows.flatten.length=rows.length * s:=by
 induction rows with
 |nil=>simp
 |cons r rows ih=>
  have h1:=h r (by simp)
  have h2:=ih fun x hx=>h x (by simp[hx])
  simp only[List.flatten_cons,List.length_append,List.length_cons,Nat.add_mul];omega
theorem Qei{s cap:Nat}{rows:List (List AC)}{j off:Nat}(c:AC)(hl:∀x∈rows,x.length=s)(hj:j < rows.length)(ho:off < s):(vec s rows cap).set (j * s+off) c=vec s (rows.set j ((rows.getD j []).set off c)) cap:=by
 have h1:=Qg5 hl
 have h2:(j+1) * s<=rows.length * s:=Nat.mul_le_mul_right _ hj
 rw[Nat.add_mul]at h2
 unfold vec
 rw[List.set_append_left _ _ (by omega),Qd6 c hl hj ho,List.length_set]
theorem CedFrN.gsL{js:List Nat}{kk k j j' s:Nat}{es:List (List AC)}{fr r:Fr}(h:Fr.get k fr=some (.one (.gs s es (.l j))))(hes:idsS isO es)(hj:toOs js kk (.l j)=.l j')(hr:CedFrN (toOs js kk) fr r):CedFrN (toOs js kk) fr ((k,.one (.gs s es (.l j')))::r):=
 .cons h (by simp only[FV.sub,AC.sub];rw[hj,Q9m (fun i hi=>by cases i with|l q=>exact hi.elim|o q=>rfl) es hes]) hr
theorem AOps.stEq{E:Env}{ops:Array Oper}{l:List Oper}{K:Cont}{fr:Fr}{σ σ':St}(h:σ=σ')(k:AOps E ops l K fr σ'):AOps E ops l K fr σ:=h▸k
end Go.Abs
namespace Go.Proofs.YtdpdlkgecmgokaaGreatDoor
open Go Go.Abs Go.CoreX
theorem Q3a(fs:List FnD):∀x∈fs.map encF,x.length=3:=fun x hx=>by
 obtain⟨f,_,rfl⟩:=List.mem_map.1 hx
 rfl
theorem encF_ps{fs:List FnD}{j cap:Nat}(h:j < fs.length)(ps:List Int):(vec 3 (fs.map encF) cap).set (j * 3+1) (.sl 1 (ps.map cI))=vec 3 ((putD fs j ps (fs.getD j default).body).map encF) cap:=by
 rw[Qei _ (Q3a fs) (by simpa using h) (by omega)]
 congr 1
 unfold putD
 rw[List.map_set]
 congr 1
 rw[List.getD_eq_getElem?_getD,List.getD_eq_getElem?_getD,List.getElem?_map,List.getElem?_eq_getElem h]
 rfl
theorem Qg9{fs:List FnD}{j cap:Nat}(h:j < fs.length)(e:List Ex):(vec 3 (fs.map encF) cap).set (j * 3+2) (.sl 5 (e.map cEx))=vec 3 ((putD fs j (fs.getD j default).params e).map encF) cap:=by
 rw[Qei _ (Q3a fs) (by simpa using h) (by omega)]
 congr 1
 unfold putD
 rw[List.map_set]
 congr 1
 rw[List.getD_eq_getElem?_getD,List.getD_eq_getElem?_getD,List.getElem?_map,List.getElem?_eq_getElem h]
 rfl
theorem Qh7{fs:List FnD}{j:Nat}(h:j < fs.length)(ps:List Int)(e0 e:List Ex):putD (putD fs j ps e0) j ((putD fs j ps e0).getD j default).params e=putD fs j ps e:=by
 unfold putD
 have h1:(fs.set j ⟨(fs.getD j default).name,ps,e0⟩).getD j default=⟨(fs.getD j default).name,ps,e0⟩:=by
  rw[List.getD_eq_getElem?_getD,List.getElem?_set_self h];rfl
 rw[h1,List.set_set]
structure BR (ou:Outer)(kb kf cap:Nat)(b:Bs):Prop where
 m:ou kb=some (.cells [.arr (.o kf) 3 0 b.fns.length cap,int b.next,.lit (.bool b.bad)])
 f:ou kf=some (.cells (vec 3 (b.fns.map encF) cap))
 c:b.fns.length<=cap
theorem BR.ne{ou:Outer}{kb kf cap:Nat}{b:Bs}(h:BR ou kb kf cap b):kb≠kf:=fun e=>by
 subst e
 have h1:=h.m
 rw[h.f]at h1
 simp only[Option.some.injEq,AObj.cells.injEq]at h1
 have h2:(vec 3 (b.fns.map encF) cap)[0]?=some (.arr (.o kb) 3 0 b.fns.length cap):=by rw[h1];rfl
 cases hf:b.fns with
 |nil=>
  rw[hf]at h2
  simp only[List.map_nil,vec,List.flatten_nil,List.nil_append,List.getElem?_replicate]at h2
  split at h2 <;> cases h2
 |cons f l=>
  rw[hf]at h2
  simp[vec,encF]at h2
structure Kp (ou ou':Outer)(kb kf kf':Nat):Prop where
 old:∀j,j≠kb->j≠kf->ou j≠none->ou' j=ou j
 nw:kf'=kf∨ou kf'=none
theorem Kp.refl(ou:Outer)(kb kf:Nat):Kp ou ou kb kf kf:=⟨fun _ _ _ _=>rfl,.inl rfl⟩
theorem Kp.trans{ou ou1 ou2:Outer}{kb kf kf1 kf2:Nat}(h:Kp ou ou1 kb kf kf1)(h2:Kp ou1 ou2 kb kf1 kf2)(hb:ou1 kb≠none):Kp ou ou2 kb kf kf2:=by
 refine⟨fun j j1 j2 j3=>?_,?_⟩
 ·have e1:=h.old j j1 j2 j3
  rw[h2.old j j1 (fun e=>?_) (by rw[e1];exact j3),e1]
  rcases h.nw with h3|h3
  ·exact j2 (e.trans h3)
  ·rw[←e]at h3;exact j3 h3
 ·rcases h2.nw with h3|h3
  ·rw[h3];exact h.nw
  ·by_cases e:kf2=kf
   ·exact .inl e
   ·refine .inr ?_
    cases h4:ou kf2 with
    |none=>rfl
    |some o=>
     have e2:kf2≠kb:=fun e=>by rw[e]at h3;exact hb h3
     have:=h.old kf2 e2 e (by rw[h4];simp)
     rw[h3,h4]at this;cases this
theorem SR.ne{ou:Outer}{kb kf cap ks:Nat}{b:Bs}{s:Sc}(hs:SR ou ks s)(h:BR ou kb kf cap b):ks≠kb/\ks≠kf:=by
 obtain⟨km,ck,l,h1,h2,h3⟩:=hs
 refine⟨fun e=>?_,fun e=>?_⟩
 ·subst e
  rw[h.m]at h1
  cases h1
 ·subst e
  rw[h.f]at h1
  simp only[Option.some.injEq,AObj.cells.injEq]at h1
  have h4:(vec 3 (b.fns.map encF) cap)[1]?=some (.mp (.o km)):=by rw[h1];rfl
  cases hf:b.fns with
  |nil=>
   rw[hf]at h4
   simp only[List.map_nil,vec,List.flatten_nil,List.nil_append,List.getElem?_replicate]at h4
   split at h4 <;> cases h4
  |cons f l=>
   rw[hf]at h4
   simp[vec,encF]at h4
theorem SR.keep{ou ou':Outer}{kb kf cap kf' ks:Nat}{b:Bs}{s:Sc}(hs:SR ou ks s)(h:BR ou kb kf cap b)(k:Kp ou ou' kb kf kf'):SR ou' ks s:=by
 obtain⟨e1,e2⟩:=hs.ne h
 obtain⟨km,ck,l,h1,h2,h3⟩:=hs
 have e3:km≠kb:=fun e=>by subst e;rw[h.m]at h2;cases h2
 have e4:km≠kf:=fun e=>by subst e;rw[h.f]at h2;cases h2
 exact⟨km,ck,l,by rw[k.old ks e1 e2 (by rw[h1];simp)];exact h1,by rw[k.old km e3 e4 (by rw[h2];simp)];exact h2,h3⟩
structure Bn (b:Bs)(k:Nat):Prop where
 n0:0<=b.next
 n1:b.next+k<=1073741824
 l:b.fns.length+k<=1048576
def CvQ (ou:Outer)(kb kf:Nat)(r0:FV)(b':Bs):FV->Outer->Prop:=fun r ou'=>r=r0/\∃kf' cap',BR ou' kb kf' cap' b'/\Kp ou ou' kb kf kf'
def CvOk (n:Nat)(t:Tr):Prop:=∀(s:Sc)(b:Bs)(ou:Outer)(kb kf cap ks:Nat),s.many<=4096->BR ou kb kf cap b->SR ou ks s->Bn b (cntN t)->
 AFn Tryz.prog Γc 38 [.one (.ptr (.o kb) 0),.one (.box (cTr t)),.one (.ptr (.o ks) 0)] ou (CvQ ou kb kf (.one (.box (cTr (cv n s t b).1))) (cv n s t b).2)
def numsL (base:Nat):Nat->List Int
 |0=>[]
 |k+1=>numsL base k++[((base+k:Nat):Int)]
theorem Q1w(base:Nat):∀k,(numsL base k).length=k
 |0=>rfl
 |k+1=>by simp[numsL,Q1w base k]
theorem Q4s(base:Nat):∀{k i:Nat},i < k->(numsL base k)[i]?=some ((base+i:Nat):Int)
 |0,i,h=>by omega
 |k+1,i,h=>by
  simp only[numsL]
  by_cases e:i < k
  ·rw[List.getElem?_append_left (by rw[Q1w];exact e)]
   exact Q4s base e
  ·have:i=k:=by omega
   subst this
   rw[List.getElem?_append_right (by rw[Q1w];exact Nat.le_refl _),Q1w,Nat.sub_self];rfl
def ouP (ou:Outer)(kb kf k cap:Nat)(b:Bs):Outer:=fun j=>bif Nat.beq j kb then some (.cells [.arr (.o k) 3 0 b.fns.length cap,int b.next,.lit (.bool b.bad)])else ouAdd (fun j=>bif Nat.beq j kf then some .dead else ou j) k [.cells (vec 3 (b.fns.map encF) cap)] j
theorem ouP_br{ou:Outer}{kb kf cap0 k cap:Nat}{b0 b:Bs}(h:BR ou kb kf cap0 b0)(hk:∀m,k<=m->(fun j=>bif Nat.beq j kf then some AObj.dead else ou j) m=none)(hc:b.fns.length<=cap):BR (ouP ou kb kf k cap b) kb k cap b/\Kp ou (ouP ou kb kf k cap b) kb kf k:=by
 have hlt:∀j,ou j≠none->j < k:=fun j hj=>by
  rcases Nat.lt_or_ge j k with h1|h1
  ·exact h1
  ·have h2:=hk j h1
   simp only at h2
   by_cases e:j=kf
   ·subst e;simp at h2
   ·rw[Q05 e]at h2;exact absurd h2 hj
 have hkb:=hlt kb (by rw[h.m];simp)
 refine⟨⟨by simp[ouP],?_,hc⟩,⟨fun j j1 j2 j3=>?_,.inr ?_⟩⟩
 ·unfold ouP
  rw[Q05 (by omega),cond_false]
  exact Q0t 0
 ·unfold ouP
  rw[Q05 j1,cond_false,Q13 (hlt j j3)]
  rw[Q05 j2];rfl
 ·have h2:=hk k (Nat.le_refl _)
  simp only at h2
  by_cases e:k=kf
  ·subst e;simp at h2
  ·rw[Q05 e]at h2;exact h2
theorem Q98{ou:Outer}(h:OuOk ou)(kf:Nat):OuOk (fun j=>bif Nat.beq j kf then some .dead else ou j):=fun j o hj=>by
 by_cases e:j=kf
 ·subst e;simp at hj;subst hj;trivial
 ·simp only at hj;rw[Q05 e]at hj;exact h j o hj
theorem ouP_ok{ou:Outer}{kb kf k cap:Nat}{b:Bs}(h:OuOk ou):OuOk (ouP ou kb kf k cap b):=fun j o hj=>by
 unfold ouP at hj
 by_cases e:j=kb
 ·subst e;simp at hj;subst hj
  exact⟨trivial,trivial,trivial,trivial⟩
 ·rw[Q05 e,cond_false]at hj
  exact Q6b (Q98 h kf) (fun o ho=>by simp at ho;subst ho;exact Q32 _ (Q41 _)) j o hj
def setB (ou:Outer)(kb kf cap:Nat)(b:Bs):Outer:=fun m=>bif Nat.beq m kb then some (.cells [.arr (.o kf) 3 0 b.fns.length cap,int b.next,.lit (.bool b.bad)])else ou m
theorem Qb6{ou:Outer}{kb kf cap:Nat}{b0:Bs}(h:BR ou kb kf cap b0)(ho:OuOk ou){b:Bs}(hf:b.fns=b0.fns):BR (setB ou kb kf cap b) kb kf cap b/\Kp ou (setB ou kb kf cap b) kb kf kf/\OuOk (setB ou kb kf cap b):=by
 refine⟨⟨by simp[setB],?_,by rw[hf];exact h.c⟩,⟨fun j j1 j2 j3=>?_,.inl rfl⟩,fun j o hj=>?_⟩
 ·unfold setB
  rw[Q05 (Ne.symm h.ne),cond_false,hf];exact h.f
 ·unfold setB
  rw[Q05 j1];rfl
 ·unfold setB at hj
  by_cases e:j=kb
  ·subst e;simp at hj;subst hj
   exact⟨trivial,trivial,trivial,trivial⟩
  ·rw[Q05 e,cond_false]at hj;exact ho j o hj
def setA (ou:Outer)(kf cap:Nat)(fns:List FnD):Outer:=fun m=>bif Nat.beq m kf then some (.cells (vec 3 (fns.map encF) cap))else ou m
theorem Qb7{ou:Outer}{kb kf cap:Nat}{b:Bs}(h:BR ou kb kf cap b)(ho:OuOk ou){fns:List FnD}(hf:fns.length=b.fns.length):BR (setA ou kf cap fns) kb kf cap { b with fns:=fns }/\Kp ou (setA ou kf cap fns) kb kf kf/\OuOk (setA ou kf cap fns):=by
 refine⟨⟨?_,by simp[setA],by simp only;rw[hf];exact h.c⟩,⟨fun j j1 j2 j3=>?_,.inl rfl⟩,fun j o hj=>?_⟩
 ·unfold setA
  rw[Q05 h.ne,cond_false,h.m];simp only;rw[hf]
 ·unfold setA
  rw[Q05 j2];rfl
 ·unfold setA at hj
  by_cases e:j=kf
  ·subst e;simp at hj;subst hj
   exact Q32 _ (Q41 _)
  ·rw[Q05 e,cond_false]at hj;exact ho j o hj
theorem Q69(ρ:Nat->Nat)(ck:Nat)(l:List (Nat×Int×(Int×Int))):(AObj.map ck (encI encPl l)).ren ρ=.map ck (encI encPl l):=AObj.ren_pure _ _ (Q35 _ _ _)
theorem plN_ok{needs:List Int}{k:Nat}{x:Int}(h:needs[k]?=some x):plN needs (k+1)=setF (plN needs k) x ((k:Int),-1):=by
 simp only[plN]
 rw[List.getD_eq_getElem?_getD,h];rfl
theorem plG_ok{f:Int->Option (Int×Int)}{group:List Int}{base k:Nat}{x:Int}(h:group[k]?=some x):plG f group base (k+1)=setF (plG f group base k) x (-1,((base+k:Nat):Int)):=by
 simp only[plG]
 rw[List.getD_eq_getElem?_getD,h];rfl
theorem BR.add{ou:Outer}{kb kf cap q:Nat}{b:Bs}(h:BR ou kb kf cap b)(hq:∀m,q<=m->ou m=none)(os:List AObj):BR (ouAdd ou q os) kb kf cap b/\Kp ou (ouAdd ou q os) kb kf kf:=by
 have hlt:∀j,ou j≠none->j < q:=fun j hj=>by
  rcases Nat.lt_or_ge j q with h1|h1
  ·exact h1
  ·exact absurd (hq j h1) hj
 have h1:=hlt kb (by rw[h.m];simp)
 have h2:=hlt kf (by rw[h.f];simp)
 exact⟨⟨by rw[Q13 h1];exact h.m,by rw[Q13 h2];exact h.f,h.c⟩,⟨fun j _ _ j3=>Q13 (hlt j j3),.inl rfl⟩⟩
end Go.Proofs.YtdpdlkgecmgokaaGreatDoor
