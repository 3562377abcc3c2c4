/- The evaluator's printing, plain nodes, and what a node does when its operands stand, walked. -/
import Derived.Test.YtdpdlkgecmgokaaGreatDoorH9
import Derived.KernelRfl
import Derived.Test.YtdpdlkgecmgokaaGreatDoorRows
import Derived.Lib.LaidTab
set_option maxRecDepth 10000
set_option linter.unusedVariables false
set_option linter.unusedSimpArgs false
namespace Go.Abs
theorem CedFrN.gs{js:List Nat}{kk k j k' s:Nat}{es:List (List AC)}{fr r:Fr}(h:Fr.get k fr=some (.one (.gs s es (.l j))))(hes:idsS isO es)(hj:toOs js kk (.l j)=.o k')(hr:CedFrN (toOs js kk) fr r):CedFrN (toOs js kk) fr ((k,.one (.gs s es (.o k')))::r):=
 .cons h (by simp only[FV.sub,AC.sub];rw[hj,Qa8 (fun i hi=>by cases i with|l q=>exact hi.elim|o q=>rfl) es hes]) hr
end Go.Abs
namespace Go.Proofs.YtdpdlkgecmgokaaGreatDoor
open Go Go.Abs Go.CoreX
variable {Γ:List (Nat×List AC)}
section
variable {fu:Int}{fc:FcT}{fns:List Fun}{ou:Outer}{H:Hm}{nm:Nm2}{m:Ms}{tc ec vc kc:AC}{t:Tr}{e:En}
def PlQ (fu:Int)(fc:FcT)(H:Hm)(nm:Nm2)(m1:Ms)(v:Vl)(tc ec vc kc:AC):FV->Outer->Prop:=fun r ou'=>∃kt H1 nm1 c,r=.one c/\Mo H nm H1 nm1/\VR H1 nm1 v c/\M0 fu ⟨fc.ac,kt⟩ ou' H1 nm1 m1 tc ec vc kc
theorem WR.reTok{mc mc':List AC}{n kt kt':Nat}{es es':List (List AC)}{ou0 ou':Outer}{heap:List (List Vl)}(w:WR (ouX mc n ou0) H nm heap)(hmc:mc[4]?=some (.gs 1 es (.o kt)))(hi:idsL isO mc')(hmc':mc'[4]?=some (.gs 1 es' (.o kt')))(h0:ou' 0=some (.cells mc'))(hk0:ouX mc n ou0 kt'=none)(h1:ou' kt'=some (.tok 3 1 es'.length))(hd:ou' kt=some .dead)(ho:∀k,1<=k->k≠kt->k≠kt'->ou' k=ou0 k):WR ou' H nm heap:=by
 obtain⟨kt2,e1,e2,e3,e4,e5⟩:=w.tk mc rfl _ _ hmc
 cases e1
 have hk1:1<=kt':=by
  match kt',hk0 with
  |0,h=>cases h
  |k+1,_=>omega
 have e:∀k,1<=k->k≠kt->k≠kt'->ou' k=ouX mc n ou0 k:=fun k hk h2 h3=>by
  obtain⟨j,rfl⟩:∃j,k=j+1:=⟨k - 1,by omega⟩
  rw[ho _ hk h2 h3];rfl
 have hkH:∀k cs,H k=some cs->1<=k/\k≠kt/\k≠kt':=fun k cs hk=>by
  refine⟨?_,(by rintro rfl;rw[e4]at hk;cases hk),(by rintro rfl;rw[w.inO _ _ hk]at hk0;cases hk0)⟩
  match k with
  |0=>rw[w.sep.1]at hk;cases hk
  |k+1=>omega
 have hkA:∀(a k n:Nat),nm[a]?=some (k,n)->1<=k/\k≠kt/\k≠kt':=fun a k n h=>by
  refine⟨w.sep.2 a k n h,e5 a k n h,?_⟩
  rintro rfl
  obtain⟨cs,c1,_⟩:=w.arr a k n h
  rw[c1]at hk0;cases hk0
 refine⟨fun k cs hk=>?_,fun k o hk=>?_,w.len,fun a k n h=>?_,w.aH,w.aa,w.sep,fun cs hc es2 i hi2=>?_,fun k o hk=>?_⟩
 ·obtain⟨h2,h3,h4⟩:=hkH k cs hk
  rw[e k h2 h3 h4];exact w.inO k cs hk
 ·by_cases h2:k=0
  ·subst h2;rw[h0]at hk;cases hk;exact hi
  by_cases h3:k=kt
  ·subst h3;rw[hd]at hk;cases hk;trivial
  by_cases h4:k=kt'
  ·subst h4;rw[h1]at hk;cases hk;trivial
  rw[e k (by omega) h3 h4]at hk;exact w.ok k o hk
 ·obtain⟨h2,h3,h4⟩:=hkA a k n h
  rw[e k h2 h3 h4];exact w.arr a k n h
 ·rw[h0]at hc;cases hc
  rw[hmc']at hi2;cases hi2
  refine⟨kt',rfl,hk1,h1,?_,fun a k n h=>(hkA a k n h).2.2⟩
  cases hh:H kt' with
  |none=>rfl
  |some c=>exact absurd rfl (hkH _ _ hh).2.2
 ·by_cases h2:k=0
  ·subst h2;rw[h0]at hk;cases hk;trivial
  by_cases h3:k=kt
  ·subst h3;rw[hd]at hk;cases hk;trivial
  by_cases h4:k=kt'
  ·subst h4;rw[h1]at hk;cases hk;trivial
  rw[e k (by omega) h3 h4]at hk;exact w.pl k o hk
theorem Qed(hΓ:∀g cs,(g,cs)∈Γ->idsL isO cs)(h0:M0 fu fc ou H nm m tc ec vc kc)(hfc:fc.ids isO)(a:Int)(hol:m.out.length<=1000)(hne:m.out.length≠1000):
  AFn Tryz.prog Γ 104 [.one (.ptr (.o 0) 0),.one (int 7),.one (.sl 1 [[iW a]])] ou (PlQ fu fc H nm { m with out:=m.out++[a] } (.obj 0 []) tc ec vc kc):=by
 have hoX:=h0.ouX
 have hids:=h0.ids
 have hw:=h0.w
 rw[hoX]at hw ⊢
 generalize hmc:ou=ou0 at hw
 clear hoX
 obtain⟨kt2,e1,e2,e3,e4,e5⟩:=hw.tk _ rfl _ _ (show (mC tc ec vc kc m.out m.steps fu fc)[4]?=_ from rfl)
 obtain⟨ac,kt⟩:=fc
 simp only[Abs.Id.o.injEq]at e1
 subst e1
 obtain⟨kj,rfl⟩:∃kj,kt=kj+1:=⟨kt - 1,by omega⟩
 refine AFn.walk 152 tabOk Tryz.func104 rfl (by kernel_rfl) rfl rfl fun hou=>?_
 refine zA ?_
 refine ACode.cond rfl (fun hb=>absurd (by simpa using hb) (show ¬((m.out.length:Int)=1000) by omega)) (fun _=>?_)
 refine zA ?_
 refine ACode.drawC2 tabOk 13 [10,11,12] [(6,.one (.box [iW a])),(8,.one (int a))] (fun vs σ=>match vs with
   |[]=>σ=⟨0,[],ouX (mC tc ec vc kc m.out m.steps fu ⟨ac,kj+1⟩) m.out.length ou0⟩
   |[v]=>v=.one (.gs 1 (m.out.map cI++[[int a]]) (.l 0))/\σ=(St.set ⟨0,[],ouX (mC tc ec vc kc m.out m.steps fu ⟨ac,kj+1⟩) m.out.length ou0⟩ (.o (kj+1)) .dead).push (.tok 3 1 (m.out.map cI++[[int a]]).length)
   |[v,w]=>v=.one (.gs 1 (m.out.map cI++[[int a]]) (.l 0))/\w=.one (.ptr (.o 0) 0)/\σ=(St.set ⟨0,[],ouX (mC tc ec vc kc m.out m.steps fu ⟨ac,kj+1⟩) m.out.length ou0⟩ (.o (kj+1)) .dead).push (.tok 3 1 (m.out.map cI++[[int a]]).length)
   |[v,w,x]=>v=.one (.gs 1 (m.out.map cI++[[int a]]) (.l 0))/\w=.one (.ptr (.o 0) 0)/\x=.one (.ptr (.o 0) 4)/\σ=(St.set ⟨0,[],ouX (mC tc ec vc kc m.out m.steps fu ⟨ac,kj+1⟩) m.out.length ou0⟩ (.o (kj+1)) .dead).push (.tok 3 1 (m.out.map cI++[[int a]]).length)
   |_=>False) follows (by kernel_rfl) rfl rfl (by decide) (by kernel_rfl) (by kernel_rfl) rfl rfl ?_ ?_ (by decide) ?_ ?_
 ·intro vs σ h
  match vs with
  |[]=>subst h;rfl
  |[_]=>obtain⟨_,rfl⟩:=h;rfl
  |[_,_]=>obtain⟨_,_,rfl⟩:=h;rfl
  |[_,_,_]=>obtain⟨_,_,_,rfl⟩:=h;rfl
  |_::_::_::_::_=>exact h.elim
 ·intro vs σ h
  have ho2:OuOk σ.ou:=by
   have hd:OuOk (St.set ⟨0,[],ouX (mC tc ec vc kc m.out m.steps fu ⟨ac,kj+1⟩) m.out.length ou0⟩ (.o (kj+1)) .dead).ou:=fun k o hk=>by
    simp only[St.set]at hk
    by_cases e:k=kj+1
    ·subst e;simp at hk;subst hk;trivial
    ·rw[Q05 e]at hk;exact hou k o hk
   match vs with
   |[]=>subst h;exact hou
   |[_]=>obtain⟨_,rfl⟩:=h;exact hd
   |[_,_]=>obtain⟨_,_,rfl⟩:=h;exact hd
   |[_,_,_]=>obtain⟨_,_,_,rfl⟩:=h;exact hd
   |_::_::_::_::_=>exact h.elim
  exact⟨⟨_,rfl,zIA rfl rfl rfl (by decide) rfl⟩,⟨_,rfl,AStep.callPure hΓ rfl rfl rfl (by simp[idsF,iW]) ho2 (Q1w a)⟩,trivial⟩
 ·intro vs σ h i o hi ho
  match vs with
  |[]=>
   subst h;cases hi;cases ho
   exact⟨rfl,.inl (.inl ⟨_,_,AStep.append tabOk rfl rfl rfl rfl rfl rfl (Base.gs' _ _ _ _ _ (show ouX (mC tc ec vc kc m.out m.steps fu ⟨ac,kj+1⟩) m.out.length ou0 (kj+1)=_ from e3) (by simp)) (.sl 1 [[int a]]) rfl (by simp;show _ * 8<=_;omega) (by simp;omega),rfl,rfl⟩)⟩
  |[_]=>obtain⟨rfl,rfl⟩:=h;cases hi;cases ho;exact⟨rfl,.inl (.inl ⟨_,_,AStep.ofOp tabOk rfl,rfl,rfl,rfl⟩)⟩
  |[_,_]=>obtain⟨rfl,rfl,rfl⟩:=h;cases hi;cases ho;exact⟨rfl,.inl (.inl ⟨_,_,AStep.ofOp tabOk rfl,rfl,rfl,rfl,rfl⟩)⟩
  |_::_::_::_=>cases hi
 ·intro vs σ hl h
  match vs with
  |[_,_,_]=>
   obtain⟨rfl,rfl,rfl,rfl⟩:=h
   have hIds:∀l:List Int,idsS isO (l.map cI):=fun l=>by simp
   have hd:OuOk (St.set ⟨0,[],ouX (mC tc ec vc kc m.out m.steps fu ⟨ac,kj+1⟩) m.out.length ou0⟩ (.o (kj+1)) .dead).ou:=fun k o hk=>by
    simp only[St.set]at hk
    by_cases e:k=kj+1
    ·subst e;simp at hk;subst hk;trivial
    ·rw[Q05 e]at hk;exact hou k o hk
   refine AOps.cedes [0] rfl (by decide) hd fun q hq=>⟨[(134,.one (.ptr (.o 0) 4)),(132,.one (.gs 1 (m.out.map cI++[[int a]]) (.o q)))],[],[.tok 3 1 (m.out.map cI++[[int a]]).length],?_,.nil,?_,?_⟩
   ·exact .cons rfl rfl (.gs rfl (by rw[show m.out.map cI++[[int a]]=(m.out++[a]).map cI by simp[cI]];exact hIds _) rfl .nil)
   ·exact .cons rfl rfl .nil
   have hq0:kj+1 < q:=by
    rcases Nat.lt_or_ge (kj+1) q with h|h
    ·exact h
    ·have:=hq (kj+1) h
     simp[St.push,St.set]at this
   generalize hA:(ouAdd (((St.set ⟨0,[],ouX (mC tc ec vc kc m.out m.steps fu ⟨ac,kj+1⟩) m.out.length ou0⟩ (.o (kj+1)) .dead).push (.tok 3 1 (m.out.map cI++[[int a]]).length)).ou) q [.tok 3 1 (m.out.map cI++[[int a]]).length])=oA
   have hA0:oA 0=some (.cells (mC tc ec vc kc m.out m.steps fu ⟨ac,kj+1⟩)):=by rw[←hA,Q16 (by omega)];rfl
   have hAq:oA q=some (.tok 3 1 (m.out.map cI++[[int a]]).length):=by rw[←hA];exact Q0x 0
   have hAd:oA (kj+1)=some .dead:=by rw[←hA,Q16 hq0];simp[St.push,St.set]
   have hAk:∀k,1<=k->k≠kj+1->k≠q->oA k=ou0 k:=fun k h2 h3 h4=>by
    obtain⟨j,rfl⟩:∃j,k=j+1:=⟨k - 1,by omega⟩
    rcases Nat.lt_or_ge (j+1) q with h|h
    ·rw[←hA,Q16 h]
     simp[St.push,St.set,Q05 h3];rfl
    ·have e5:ou0 (j+1)=none:=by
      have:=hq (j+1) h
      simp[St.push,St.set,Q05 h3]at this
      exact this
     obtain⟨p,hp⟩:∃p,j+1=q+p:=⟨j+1 - q,by omega⟩
     rw[e5,←hA,hp,Q0x]
     match p,hp with
     |0,hp=>omega
     |p+1,_=>rfl
   have hqn:ouX (mC tc ec vc kc m.out m.steps fu ⟨ac,kj+1⟩) m.out.length ou0 q=none:=by
    have:=hq q (Nat.le_refl _)
    simp[St.push,St.set,Q05 (show q≠kj+1 by omega)]at this
    exact this
   refine AOps.storeOwn tabOk rfl rfl rfl rfl rfl rfl rfl hA0 (by simp[mC]) ?_
   have hN:M0 fu ⟨ac,q⟩ (St.set ⟨1,[],oA⟩ (.o 0) (.cells ((mC tc ec vc kc m.out m.steps fu ⟨ac,kj+1⟩).set 4 (.gs 1 (m.out.map cI++[[int a]]) (.o q))))).ou H nm { m with out:=m.out++[a] } tc ec vc kc:=by
    have hmm:(mC tc ec vc kc m.out m.steps fu ⟨ac,kj+1⟩).set 4 (.gs 1 (m.out.map cI++[[int a]]) (.o q))=mC tc ec vc kc (m.out++[a]) m.steps fu ⟨ac,q⟩:=by simp[mC,cI]
    rw[hmm]
    refine⟨hids,by simp[St.set],WR.reTok hw rfl (show idsL isO (mC tc ec vc kc (m.out++[a]) m.steps fu ⟨ac,q⟩)from ⟨hids.1,hids.2.1,hids.2.2.1,hids.2.2.2,⟨trivial,hIds _⟩,trivial,trivial,hfc,trivial⟩) (show (mC tc ec vc kc (m.out++[a]) m.steps fu ⟨ac,q⟩)[4]?=some (.gs 1 ((m.out++[a]).map cI) (.o q))from rfl) (by simp[St.set]) hqn ?_ ?_ ?_⟩
    ·simp[St.set,Q05 (show q≠0 by omega),hAq]
    ·simp[St.set,Q05 (show kj+1≠0 by omega),hAd]
    ·intro k h2 h3 h4
     simp[St.set,Q05 (show k≠0 by omega)];exact hAk k h2 h3 h4
   have hNo:=hN.w.ok
   repeat ((fail_if_success ((with_reducible refine oj ?_);refine AOps.atDst 137 rfl ?_));first|refine zO ?_)
   refine AOps.freeze1 (.l 1) 136 rfl rfl ?_
   refine AOps.wk 136 rfl (y:=.one (.box [int 0,.sl 1 []])) (.one (Wk.box (.cons (.refl _) (.cons (.nilS 1) .nil)))) ?_
   refine zS (AStep.mkIfc Q3z rfl rfl) ?_
   refine zA ?_
   exact AFn.fin' rfl (WkF.ofEq rfl) (by simp[iB]) hNo ⟨q,H,nm,iB tObj [int 0,.sl 1 []],rfl,.refl _ _,.obj 0 [] [] .nil,hN⟩
  |[]|[_]|[_,_]=>cases hl
  |_::_::_::_::_=>exact h.elim
end
section
variable {fu:Int}{fc:FcT}{fns:List Fun}{ou:Outer}{H:Hm}{nm:Nm2}{m m1:Ms}{v:Vl}{tc ec vc kc:AC}{t:Tr}{e:En}{d:List Vl}{k:List Fm}{dc:List (List AC)}{tc0 ec0 vc0 kc0:AC}
theorem Qfp(hΓ:∀g cs,(g,cs)∈Γ->idsL isO cs)(h0:M0 fu fc ou H nm m tc ec vc kc)(hd:VsR H nm d dc)(h6:t.op=6):
  AFn Tryz.prog Γ 87 [.one (.ptr (.o 0) 0),.one (.box (cTr t)),.one (.sl 1 dc)] ou (PlQ fu fc H nm m (.obj t.n d) tc ec vc kc):=by
 have hdi:=hd.ids
 refine AFn.walk 85 tabOk Tryz.func87 rfl (by kernel_rfl) rfl rfl fun hou=>?_
 cases t with
 |mk to tn tb tk ta=>
 obtain rfl:to=6:=h6
 repeat ((fail_if_success ((with_reducible refine oj ?_);refine AOps.atDst 23 rfl ?_));first|refine zO ?_)
 refine AOps.freeze1 (.l 0) 22 rfl rfl ?_
 refine zS (AStep.mkIfc Q3z rfl rfl) ?_
 refine zA ?_
 exact AFn.fin' rfl (WkF.ofEq rfl) ⟨⟨trivial,hdi,trivial⟩,trivial⟩ hou ⟨fc.kt,H,nm,iB tObj [int tn,.sl 1 dc],rfl,.refl _ _,.obj tn d dc hd,h0⟩
theorem Qee(hΓ:∀g cs,(g,cs)∈Γ->idsL isO cs)(hd:VsR H nm d dc)(h8:t.op=8)(hp:AFn Tryz.prog Γ 104 [.one (.ptr (.o 0) 0),.one (int t.n),.one (.sl 1 dc)] ou (PlQ fu fc H nm m1 v tc ec vc kc)):
  AFn Tryz.prog Γ 87 [.one (.ptr (.o 0) 0),.one (.box (cTr t)),.one (.sl 1 dc)] ou (PlQ fu fc H nm m1 v tc ec vc kc):=by
 have hdi:=hd.ids
 refine AFn.walk 85 tabOk Tryz.func87 rfl (by kernel_rfl) rfl rfl fun hou=>?_
 cases t with
 |mk to tn tb tk ta=>
 obtain rfl:to=8:=h8
 refine zA ?_
 refine AOps.call1 hΓ rfl rfl rfl rfl rfl rfl rfl ⟨trivial,trivial,hdi,trivial⟩ hou hp fun r ou' hq hids how=>?_
 obtain⟨kt,H1,nm1,c,rfl,hq⟩:=hq
 refine zA ?_
 exact AFn.fin' rfl (WkF.refl _) hids how ⟨kt,H1,nm1,c,rfl,hq⟩
theorem Q5r(h0:M0 fu fc ou H nm m tc0 ec0 vc0 kc0)(hk:KR H nm k kc)(hfc:fc.ids isO):M0 fu fc (ouX (mC tc0 ec0 vc0 kc m.out m.steps fu fc) m.out.length ou) H nm m tc0 ec0 vc0 kc:=by
 have hw:=h0.w
 rw[h0.ouX]at hw
 exact⟨⟨h0.ids.1,h0.ids.2.1,h0.ids.2.2.1,hk.ids⟩,rfl,hw.put (mc':=mC tc0 ec0 vc0 kc m.out m.steps fu fc) (by simp[mC,h0.ids.1,h0.ids.2.1,h0.ids.2.2.1,hk.ids,hfc]) rfl rfl (fun _=>rfl)⟩
theorem Qif(hΓ:∀g cs,(g,cs)∈Γ->idsL isO cs)(h0:M0 fu fc ou H nm m tc0 ec0 vc0 kc0)(hfc:fc.ids isO)(he:ER H nm e ec)(hd:VsR H nm d dc)(hk:KR H nm k kc)(hl:d.length=1)(h7:t.op=7){x:Except Int Ms}
  (hch:∀ou',M0 fu fc ou' H nm m tc0 ec0 vc0 kc->AFn Tryz.prog Γ 82 [.one (.ptr (.o 0) 0),.one (.box [.box (cTr t),ec,.sl 1 dc,kc])] ou' (StQ fu fc H nm x)):
  AFn Tryz.prog Γ 69 [.one (.ptr (.o 0) 0),.one (.box [.box (cTr t),ec,.sl 1 dc,kc])] ou (StQ fu fc H nm x):=by
 have hN:=Q5r h0 hk hfc
 have hei:=he.ids
 have hdi:=hd.ids
 have hki:=hk.ids
 have hdl:=hd.len
 have hop:opdN t=1:=by unfold opdN;rw[if_pos (.inr (.inl h7))]
 have hoX:=h0.ouX
 rw[hoX]
 generalize hmc:ou=ou0 at hN
 clear hoX
 refine AFn.walk 262 tabOk Tryz.func69 rfl (by kernel_rfl) rfl rfl fun hou=>?_
 refine zA ?_
 refine ACode.drawX tabOk 10 [(9,.one (int (opdN t)))] follows (by kernel_rfl) rfl rfl rfl rfl ?_ ?_
 ·exact⟨⟨_,rfl,AStep.callPure hΓ rfl rfl rfl (by simp[idsF]) hou (Q3r t)⟩,trivial⟩
 refine zA ?_
 refine ACode.cond rfl (fun hb=>absurd hb (by simp[hdl,hl,hop])) (fun hb=>?_)
 refine zA ?_
 refine ACode.stEq (σ':=⟨0,[],ouX (mC tc0 ec0 vc0 kc m.out m.steps fu fc) m.out.length ou0⟩) (setX _ _ _ _) ?_
 refine ACode.cond rfl (fun hb=>absurd hb (by simp[h7])) (fun _=>?_)
 refine zA ?_
 refine ACode.cond rfl (fun _=>?_) (fun hb=>absurd hb (by simp[h7]))
 refine zA ?_
 refine AOps.call1 hΓ rfl rfl rfl rfl rfl rfl rfl ⟨trivial,⟨by simp,hei,hdi,hki,trivial⟩,trivial⟩ hN.w.ok (hch _ hN) fun r ou' hq _ how=>?_
 obtain⟨rfl,H',nm',m',hx,hmo,hM⟩:=hq
 refine zA ?_
 exact StQ.fin rfl hx hmo hM
theorem kid_app(hΓ:∀g cs,(g,cs)∈Γ->idsL isO cs)(h0:M0 fu fc ou H nm m tc0 ec0 vc0 kc0)(hfc:fc.ids isO)(he:ER H nm e ec){v0:Vl}{c0:AC}{ds:List (List AC)}(hv0:VR H nm v0 c0)(hd:VsR H nm d ds)(hk:KR H nm k kc)(hl:d.length+1=t.kids.length)(h3:t.op=3){x:Except Int Ms}
  (hcl:∀ou',M0 fu fc ou' H nm m tc0 ec0 vc0 kc->AFn Tryz.prog Γ 83 [.one (.ptr (.o 0) 0),.one c0,.one (.sl 1 ds)] ou' (StQ fu fc H nm x)):
  AFn Tryz.prog Γ 69 [.one (.ptr (.o 0) 0),.one (.box [.box (cTr t),ec,.sl 1 ([c0]::ds),kc])] ou (StQ fu fc H nm x):=by
 have hN:=Q5r h0 hk hfc
 have hei:=he.ids
 have hdi:=hd.ids
 have hvi:=hv0.ids
 have hki:=hk.ids
 have hdl:=hd.len
 have hop:opdN t=t.kids.length:=by unfold opdN;rw[if_neg (by rw[h3];decide)]
 have hoX:=h0.ouX
 rw[hoX]
 generalize hmc:ou=ou0 at hN
 clear hoX
 refine AFn.walk 262 tabOk Tryz.func69 rfl (by kernel_rfl) rfl rfl fun hou=>?_
 refine zA ?_
 refine ACode.drawX tabOk 10 [(9,.one (int (opdN t)))] follows (by kernel_rfl) rfl rfl rfl rfl ?_ ?_
 ·exact⟨⟨_,rfl,AStep.callPure hΓ rfl rfl rfl (by simp[idsF]) hou (Q3r t)⟩,trivial⟩
 refine zA ?_
 refine ACode.cond rfl (fun hb=>absurd hb (by simp[hdl,hop];omega)) (fun hb=>?_)
 refine zA ?_
 refine ACode.stEq (σ':=⟨0,[],ouX (mC tc0 ec0 vc0 kc m.out m.steps fu fc) m.out.length ou0⟩) (setX _ _ _ _) ?_
 refine ACode.cond rfl (fun hb=>absurd hb (by simp[h3])) (fun _=>?_)
 refine zA ?_
 refine ACode.cond rfl (fun hb=>absurd hb (by simp[h3])) (fun _=>?_)
 refine zA ?_
 refine ACode.cond rfl (fun _=>?_) (fun hb=>absurd hb (by simp[h3]))
 refine zA ?_
 refine ACode.drawX tabOk 12 [(5,.one (.box [c0])),(11,.one (.sl 1 ds))] follows (by kernel_rfl) rfl rfl rfl rfl ?_ ?_
 ·exact⟨⟨_,rfl,zIA rfl rfl rfl (by decide) rfl⟩,⟨_,rfl,AStep.sliceFrom (b:=1) (es:=[c0]::ds) tabOk rfl rfl rfl rfl rfl rfl rfl (by simp)⟩,trivial⟩
 refine zA ?_
 refine AOps.call1 hΓ rfl rfl rfl rfl rfl rfl rfl ⟨trivial,hvi,hdi,trivial⟩ hN.w.ok (hcl _ hN) fun r ou' hq _ how=>?_
 obtain⟨rfl,H',nm',m',hx,hmo,hM⟩:=hq
 refine zA ?_
 exact StQ.fin rfl hx hmo hM
theorem Qao(hΓ:∀g cs,(g,cs)∈Γ->idsL isO cs)(h0:M0 fu fc ou H nm m tc0 ec0 vc0 kc0)(hfc:fc.ids isO)(he:ER H nm e ec)(hd:VsR H nm d dc)(hk:KR H nm k kc)(hl:d.length=opdN t)(hn:¬(t.op=4∨t.op=7∨t.op=3∨t.op=13∨t.op=12∨t.op=14∨t.op=15∨t.op=16))
  (hpl:∀ou',M0 fu fc ou' H nm m tc0 ec0 vc0 kc->AFn Tryz.prog Γ 87 [.one (.ptr (.o 0) 0),.one (.box (cTr t)),.one (.sl 1 dc)] ou' (PlQ fu fc H nm m1 v tc0 ec0 vc0 kc)):
  AFn Tryz.prog Γ 69 [.one (.ptr (.o 0) 0),.one (.box [.box (cTr t),ec,.sl 1 dc,kc])] ou (StQ fu fc H nm (.ok { m1 with c:=.rt v,k:=k })):=by
 have hN:=Q5r h0 hk hfc
 simp only[not_or]at hn
 have hei:=he.ids
 have hdi:=hd.ids
 have hki:=hk.ids
 have hdl:=hd.len
 have hoX:=h0.ouX
 rw[hoX]
 generalize hmc:ou=ou0 at hN
 clear hoX
 refine AFn.walk 262 tabOk Tryz.func69 rfl (by kernel_rfl) rfl rfl fun hou=>?_
 refine zA ?_
 refine ACode.drawX tabOk 10 [(9,.one (int (opdN t)))] follows (by kernel_rfl) rfl rfl rfl rfl ?_ ?_
 ·exact⟨⟨_,rfl,AStep.callPure hΓ rfl rfl rfl (by simp[idsF]) hou (Q3r t)⟩,trivial⟩
 refine zA ?_
 refine ACode.cond rfl (fun hb=>absurd hb (by simp[hdl,hl])) (fun hb=>?_)
 refine zA ?_
 refine ACode.stEq (σ':=⟨0,[],ouX (mC tc0 ec0 vc0 kc m.out m.steps fu fc) m.out.length ou0⟩) (setX _ _ _ _) ?_
 refine ACode.cond rfl (fun hb=>absurd hb (by simp[hn.1])) (fun _=>?_)
 refine zA ?_
 refine ACode.cond rfl (fun hb=>absurd hb (by simp[hn.2.1])) (fun _=>?_)
 refine zA ?_
 refine ACode.cond rfl (fun hb=>absurd hb (by simp[hn.2.2.1])) (fun _=>?_)
 refine zA ?_
 refine ACode.cond rfl (fun hb=>absurd hb (by simp[hn.2.2.2.1])) (fun _=>?_)
 refine zA ?_
 refine ACode.cond rfl (fun hb=>absurd hb (by simp[hn.2.2.2.2.1])) (fun _=>?_)
 refine zA ?_
 refine ACode.cond rfl (fun hb=>absurd hb (by simp[hn.2.2.2.2.2.1])) (fun _=>?_)
 refine zA ?_
 refine ACode.cond rfl (fun hb=>absurd hb (by simp[hn.2.2.2.2.2.2.1])) (fun _=>?_)
 refine zA ?_
 refine ACode.cond rfl (fun hb=>absurd hb (by simp[hn.2.2.2.2.2.2.2])) (fun _=>?_)
 refine zA ?_
 refine ACode.drawCS tabOk 15 11 12 13 14 (.one (.ptr (.o 0) 0)) (.one (.ptr (.o 0) 0)) []
  (fun r σ=>∃kt H1 nm1 c ou1,r=.one c/\σ=⟨0,[],ouX (mC tc0 ec0 vc0 kc m1.out m1.steps fu ⟨fc.ac,kt⟩) m1.out.length ou1⟩/\Mo H nm H1 nm1/\VR H1 nm1 v c/\WR (ouX (mC tc0 ec0 vc0 kc m1.out m1.steps fu ⟨fc.ac,kt⟩) m1.out.length ou1) H1 nm1 m1.heap)
  (fun r σ=>∃kt H1 nm1 c ou1,r=.one c/\σ=⟨0,[],ouX (mC nilPE ec0 vc0 kc m1.out m1.steps fu ⟨fc.ac,kt⟩) m1.out.length ou1⟩/\Mo H nm H1 nm1/\VR H1 nm1 v c/\WR (ouX (mC tc0 ec0 vc0 kc m1.out m1.steps fu ⟨fc.ac,kt⟩) m1.out.length ou1) H1 nm1 m1.heap)
  follows (by kernel_rfl) rfl rfl (by decide) (by kernel_rfl) (by kernel_rfl) rfl rfl rfl rfl rfl rfl rfl ?_ ?_ trivial (fun _ _ _=>trivial) (fun _ _ _=>trivial) ?_ ?_ ?_ ?_ ?_
 ·rintro r σ ⟨kt,H1,nm1,c,ou1,rfl,rfl,_⟩;rfl
 ·rintro r σ ⟨kt,H1,nm1,c,ou1,rfl,rfl,_⟩;rfl
 ·refine Q2z.ofR (Q0m.call hΓ rfl rfl rfl rfl ⟨trivial,by simp,hdi,trivial⟩ hN.w.ok (hpl _ hN) fun r ou' hq hr ho=>?_)
  obtain⟨kt,H1,nm1,c,rfl,h1,h2,h3⟩:=hq
  have hw:=h3.w
  have e:=h3.ouX
  rw[e]at hw
  exact⟨kt,H1,nm1,c,ou',rfl,by rw[←e],h1,h2,hw⟩
 ·rintro r σ ⟨kt,H1,nm1,c,ou1,rfl,rfl,_⟩;exact AStep.ofOp tabOk rfl
 ·rintro r σ ⟨kt,H1,nm1,c,ou1,rfl,rfl,_⟩;exact AStep.ofOp tabOk rfl
 ·rintro r σ ⟨kt,H1,nm1,c,ou1,rfl,rfl,h1⟩;exact⟨_,⟨kt,H1,nm1,c,ou1,rfl,setX _ _ _ _,h1⟩,AStep.ofStore tabOk rfl⟩
 ·rintro r σ ⟨kt,H1,nm1,c,ou1,rfl,rfl,h1,h2,h3⟩
  refine zA ?_
  have hM:MR fu ⟨fc.ac,kt⟩ (St.set ⟨0,[],ouX (mC nilPE ec0 vc0 kc m1.out m1.steps fu ⟨fc.ac,kt⟩) m1.out.length ou1⟩ (.o 0) (.cells (mC nilPE ec0 c kc m1.out m1.steps fu ⟨fc.ac,kt⟩))).ou H1 nm1 { m1 with c:=.rt v,k:=k }:=MR.ofRt h3 h2 (hk.mo h1) h0.ids.2.1 hfc rfl rfl (fun _=>rfl)
  exact StQ.fin rfl rfl h1 ⟨hM.ex⟩
end
end Go.Proofs.YtdpdlkgecmgokaaGreatDoor
namespace Go.Abs
theorem AStep.less{E:Env}{o:Oper}{fr:Fr}{σ σ1 σ2:St}{x:FV}(h:AStep E o fr σ x σ1)(hn:σ2.n=σ1.n)(hs:∀i o,σ2.get i=some o->σ1.get i=some o):AStep E o fr σ x σ2:=
 fun F w C tmps hi hf next Q hk=>h F w C tmps hi hf next Q fun u w' C' hg hi' hr=>
  hk u w' C' hg ⟨hi'.base,by rw[hn];exact hi'.next,hi'.glob,hi'.prot,fun i o ho=>hi'.obj i o (hs i o ho),fun i j o o' g h1 h2 h3 h4=>hi'.inj i j o o' g (hs i o h1) (hs j o' h2) h3 h4⟩ hr
theorem AStep.weakV{E:Env}{o:Oper}{fr:Fr}{σ σ':St}{x y:FV}(h:AStep E o fr σ x σ')(hw:WkF x y):AStep E o fr σ y σ':=
 fun F w C tmps hi hf next Q hk=>h F w C tmps hi hf next Q fun u w' C' hg hi' hr=>hk u w' C' hg hi' (hw _ _ _ hr)
end Go.Abs
namespace Go.Proofs.YtdpdlkgecmgokaaGreatDoor
open Go Go.Abs Go.CoreX
variable {Γ:List (Nat×List AC)}
def Qhh (cs:List (List AC))(ou:Outer)(r:FV)(ou':Outer):Prop:=
 (cs=[]/\r=.one (.lit (.slice none 0 0))/\ou'=ou)∨∃q,r=.one (.gs 1 cs (.o q))/\ou' q=some (.tok 71 1 cs.length)/\ou q=none/\∀m,m≠q->ou' m=ou m
theorem Qh2(hΓ:∀g cs,(g,cs)∈Γ->idsL isO cs)(cs:List (List AC))(hl:cs.length<=1048576)(hi:idsS isO cs)(h1:∀x∈cs,x.length=1)(ou:Outer):AFn Tryz.prog Γ 70 [.one (.sl 1 cs)] ou (Qhh cs ou):=by
 refine AFn.walk 8 tabOk Tryz.func70 rfl (by kernel_rfl) rfl rfl fun hou=>?_
 refine zA ?_
 refine AOps.nilTest rfl rfl rfl rfl Tryz.underlying125 rfl rfl fun b hb=>?_
 cases b with
 |true=>
  have hz:cs=[]:=by have:=hb rfl;simpa using this
  subst hz
  refine zA ?_
  exact AFn.fin' rfl (.refl _) (by simp) hou (.inl ⟨rfl,rfl,rfl⟩)
 |false=>
  refine zA ?_
  refine zS (AStep.buildSlice0 tabOk rfl rfl rfl rfl rfl) ?_
  refine zA ?_
  refine AOps.app tabOk rfl rfl rfl rfl rfl rfl rfl rfl rfl (Base.gs' _ _ _ _ _ (by rfl) (by simp)) (.sl _ _) rfl (by simp;show _ * 16<=_;omega) (by simp;omega) ?_
  refine AOps.cedes [1] rfl (by decide) hou fun q hq=>⟨[(7,.one (.gs 1 ([]++cs) (.o q)))],[],[.tok 71 1 ([]++cs).length],.gs rfl (by simpa using hi) rfl .nil,.nil,.cons rfl rfl .nil,?_⟩
  have hN:=NewO.add hq hou (show (AObj.tok 71 1 ([]++cs).length).ids isO from trivial)
  refine zA ?_
  refine AFn.fin' rfl (WkF.ofEq rfl) ⟨trivial,by simpa using hi⟩ hN.ok (.inr ⟨q,by simp,?_,hN.new q (by simp[keys]),fun m hm=>hN.old m (by simp[keys];exact hm)⟩)
  have:=hN.own (q,_) (List.mem_singleton.2 rfl)
  simpa using this
section
variable {fu:Int}{ac:AC}{fns:List Fun}{G:GP}
def KidC (fu:Int)(ac:AC)(G:GP)(Γ:List (Nat×List AC)):Prop:=∀(ou:Outer)(H:Hm)(nm:Nm2)(m m':Ms)(t:Tr)(e:En)(d:List Vl)(k:List Fm)(ec kc tc0 ec0 vc0 kc0:AC)(dc:List (List AC))(kt:Nat),M0 fu ⟨ac,kt⟩ ou H nm m tc0 ec0 vc0 kc0->ER H nm e ec->VsR H nm d dc->KR H nm k kc->
 allT G.p t->gE G e->gVs G d->d.length<=opdN t->nLf t.op->gFs G k->(G.R->k.length<=1048576)->m.out.length<=1000->kidM fu G.fns m (.mk t e d) k=.ok m'->(G.R->m'.k.length<=1048576)->AFn Tryz.prog Γ 69 [.one (.ptr (.o 0) 0),.one (.box [.box (cTr t),ec,.sl 1 dc,kc])] ou (StQ fu ⟨ac,kt⟩ H nm (.ok m'))
def bndX (fu:Int)(fns:List Fun):Nat->Ms->Bool
 |0,m=>decide (m.k.length<=1048576)
 |g+1,m=>decide (m.k.length<=1048576)&&(match Q12 fu fns m with
  |.next m'=>bndX fu fns g m'
  |_=>true)
theorem bndX_k{fns:List Fun}{g:Nat}{m:Ms}(h:bndX fu fns g m=true):m.k.length<=1048576:=by
 cases g with
 |zero=>simpa[bndX]using h
 |succ g=>simp only[bndX,Bool.and_eq_true,decide_eq_true_eq]at h;exact h.1
def StartC (fu:Int)(ac:AC)(G:GP)(Γ:List (Nat×List AC)):Prop:=∀(ou:Outer)(H:Hm)(nm:Nm2)(m m':Ms)(t:Tr)(e:En)(ec vc kc:AC)(kt:Nat),M0 fu ⟨ac,kt⟩ ou H nm m (.box (cTr t)) ec vc kc->ER H nm e ec->KR H nm m.k kc->
 allT G.p t->gE G e->gFs G m.k->(G.R->m.k.length<=1048576)->m.out.length<=1000->Q2m fu G.fns m t e=.ok m'->(G.R->m'.k.length<=1048576)->AFn Tryz.prog Γ 71 [.one (.ptr (.o 0) 0)] ou (StQ fu ⟨ac,kt⟩ H nm (.ok m'))
theorem VsR.ones{H:Hm}{nm:Nm2}:∀{v:List Vl}{c:List (List AC)},VsR H nm v c->∀x∈c,x.length=1
 |_,_,.nil,x,hx=>by cases hx
 |_,_,.cons v c vs cs hv h,x,hx=>by
  rcases List.mem_cons.1 hx with rfl|hx
  ·rfl
  ·exact VsR.ones h x hx
theorem run_ok(hΓ:∀g cs,(g,cs)∈Γ->idsL isO cs)(hac:ac.ids isO)(hG:GPok G)(hopn:∀t,allT G.p t->opdN t<=1048576)(hkid:KidC fu ac G Γ)(hstart:StartC fu ac G Γ){ou:Outer}{H:Hm}{nm:Nm2}{m0:Ms}{kt0:Nat}(h0:MR fu ⟨ac,kt0⟩ ou H nm m0)(hg0:gM G m0){g0:Nat}{mf:Ms}{vf:Vl}(hgo:goX fu G.fns g0 m0=some (.done mf vf))(hbd:G.R->bndX fu G.fns g0 m0=true)(hol:mf.out.length<=1000)(hfu:0<=fu/\fu<=1000000)(hst0:0<=m0.steps)(hmf:mf.steps<=fu):
  AFn Tryz.prog Γ 52 [.one (.ptr (.o 0) 0)] ou (fun r ou'=>r=.one (.lit (.bool true))/\mf.c=.rt vf/\mf.k=[]/\∃H' nm',MR fu ⟨ac,kt0⟩ ou' H' nm' mf):=by
 refine AFn.walk 70 tabOk Tryz.func52 rfl (by kernel_rfl) rfl rfl fun hou=>?_
 refine zA ?_
 refine ACode.loopR hΓ (α:=Outer×Hm×Nm2×Ms) (fun a=>[(0,.one (.ptr (.o 0) 0))]) (fun a=>⟨0,[],a.1⟩) (fun g a=>MR fu ⟨ac,kt0⟩ a.1 a.2.1 a.2.2.1 a.2.2.2/\gM G a.2.2.2/\goX fu G.fns g a.2.2.2=some (.done mf vf)/\0<=a.2.2.2.steps/\(G.R->bndX fu G.fns g a.2.2.2=true))
  (a0:=(ou,H,nm,m0)) (ρ:=_root_.id) ⟨h0,hg0,hgo,hst0,hbd⟩ (LessR.of rfl zFW (by simp) zLO rfl rfl hou) fun g a ha=>?_
 obtain⟨ou1,H1,nm1,m⟩:=a
 obtain⟨hM,hgm,hgo,hst,hbx⟩:=ha
 dsimp only at hM hgm hgo hst hbx ⊢
 clear hou h0 hg0 hst0 hbd
 obtain⟨kt,tc,ec,vc,kc,hCR,hKR,h0⟩:=hM.ex
 have hou:=h0.w.ok
 have holm:m.out.length<=1000:=by
  rcases Qgm hgo with h|h
  ·exact Nat.le_trans h hol
  ·cases h
 obtain⟨g,rfl⟩:∃g',g=g'+1:=by
  cases g with
  |zero=>cases hgo
  |succ g=>exact⟨g,rfl⟩
 simp only[goX]at hgo
 have hkl:G.R->m.k.length<=1048576:=fun hR=>by have:=hbx hR;simp only[bndX,Bool.and_eq_true,decide_eq_true_eq]at this;exact this.1
 have hbn:G.R->∀m1,Q12 fu G.fns m=.next m1->bndX fu G.fns g m1=true:=fun hR m1 h1=>by have:=hbx hR;simp only[bndX,h1,Bool.and_eq_true]at this;exact this.2
 have hids:=h0.ids
 have hoX:=h0.ouX
 have hki:=hKR.ids
 have hw:=h0.w
 rw[hoX]at hw hou ⊢
 obtain⟨mc,mk,mo,ms,mh⟩:=m
 dsimp only at hgo hst hw hou hids hki holm h0 hkl hbn ⊢
 cases hCR with
 |ev t e ec vc he=>
  have hei:=he.ids
  have hsf:¬ms=fu:=fun h=>by
   simp[Q12,h]at hgo
  rw[Q94 rfl hsf]at hgo
  have hox:∃m',Q2m fu G.fns ⟨.ev t e,mk,mo,ms+1,mh⟩ t e=.ok m':=by
   cases hx:Q2m fu G.fns ⟨.ev t e,mk,mo,ms+1,mh⟩ t e with
   |ok m'=>exact⟨m',rfl⟩
   |error c=>simp only[hx,rdOf]at hgo;cases hgo
  obtain⟨m',hx⟩:=hox
  simp only[hx,rdOf]at hgo
  have hgm':gM G m':=Qcx hG hgm (by rw[Q94 rfl hsf,hx];rfl)
  have hbn':G.R->bndX fu G.fns g m'=true:=fun hR=>hbn hR m' (by rw[Q94 rfl hsf,hx];rfl)
  have haf:=Qct (fu:=fu) (fns:=G.fns) hx
  have hfu':m'.steps<=fu:=Int.le_trans (goX_ge hgo (by simp)) hmf
  simp only at haf
  refine zA ?_
  refine zS (AStep.neNilBox Tryz.underlying68 rfl rfl rfl) ?_
  refine zM ?_
  refine zS (AStep.eqNilBox Tryz.underlying68 rfl rfl rfl) ?_
  refine zA ?_
  refine ACode.drawX tabOk 8 [] follows (by kernel_rfl) rfl rfl rfl rfl trivial ?_
  refine zA ?_
  refine ACode.cond rfl (fun hb=>absurd (by simpa using hb) hsf) (fun _=>?_)
  refine zM ?_
  have hN:M0 fu ⟨ac,kt⟩ (St.set ⟨0,[],ouX (mC (.box (cTr t)) ec vc kc mo ms fu ⟨ac,kt⟩) mo.length ou1⟩ (.o 0) (.cells (mC (.box (cTr t)) ec vc kc mo (ms+1) fu ⟨ac,kt⟩))).ou H1 nm1 ⟨.ev t e,mk,mo,ms+1,mh⟩ (.box (cTr t)) ec vc kc:=
   ⟨hids,rfl,hw.put (mc':=mC (.box (cTr t)) ec vc kc mo (ms+1) fu ⟨ac,kt⟩) (by simp[mC,hids,hei,hki,hac]) rfl rfl (fun _=>rfl)⟩
  refine AOps.call1 hΓ rfl rfl rfl rfl rfl rfl rfl ⟨trivial,trivial⟩ hN.w.ok (hstart _ H1 nm1 _ m' t e ec vc kc kt hN he hKR hgm.c.1 hgm.c.2 hgm.k hkl holm hx fun hR=>bndX_k (hbn' hR)) fun r ou2 hq _ how=>?_
  obtain⟨rfl,H',nm',m2,hx2,hmo,hM2⟩:=hq
  cases hx2
  refine zA ?_
  exact cInv ⟨g,(ou2,H',nm',m'),_root_.id,by omega,⟨⟨hM2.ex⟩,hgm',hgo,by dsimp only;omega,hbn'⟩,LessR.of rfl zFW (by simp) zLO rfl rfl how⟩
 |rt v ec vc hv=>
  have hvi:=hv.ids
  cases hKR with
  |nil=>
   have hr:Q12 fu G.fns ⟨.rt v,[],mo,ms,mh⟩=.done ⟨.rt v,[],mo,ms,mh⟩ v:=by simp[Q12]
   rw[hr]at hgo
   cases hgo
   refine zA ?_
   refine zS (AStep.neNil0 Tryz.underlying68 rfl rfl rfl) ?_
   refine zM ?_
   refine zS (AStep.neNil0 Tryz.underlying72 rfl rfl rfl) ?_
   refine zM ?_
   refine AFn.fin' rfl (WkF.ofEq rfl) (by simp) hou ⟨rfl,rfl,rfl,H1,nm1,⟨⟨kt,nilPE,ec,vc,nilPE,.rt _ ec vc hv,.nil,?_⟩⟩⟩
   rw[←hoX];exact h0
  |cons t e d k ec2 dc kc2 he hd hk=>
   have hei:=he.ids
   have hdi:=hd.ids
   have hk2i:=hk.ids
   have hgf:=hgm.k
   obtain⟨⟨g1,g2,g3,g4,gn⟩,g5⟩:=hgf
   have hdl:=hd.len
   rw[Q93 (f:=.mk t e d) (k:=k) rfl rfl]at hgo
   have hox:∃m',kidM fu G.fns ⟨.rt v,.mk t e d::k,mo,ms,mh⟩ (.mk t e (d++[v])) k=.ok m':=by
    cases hx:kidM fu G.fns ⟨.rt v,.mk t e d::k,mo,ms,mh⟩ (.mk t e (d++[v])) k with
    |ok m'=>exact⟨m',rfl⟩
    |error c=>simp only[Fm.t_mk,Fm.e_mk,Fm.done_mk,hx,rdOf]at hgo;cases hgo
   obtain⟨m',hx⟩:=hox
   simp only[Fm.t_mk,Fm.e_mk,Fm.done_mk,hx,rdOf]at hgo
   have hgm':gM G m':=Qcx hG hgm (by rw[Q93 (fu:=fu) (f:=.mk t e d) (k:=k) rfl rfl];simp only[Fm.t_mk,Fm.e_mk,Fm.done_mk,hx];rfl)
   have hbn':G.R->bndX fu G.fns g m'=true:=fun hR=>hbn hR m' (by rw[Q93 (fu:=fu) (f:=.mk t e d) (k:=k) rfl rfl];simp only[Fm.t_mk,Fm.e_mk,Fm.done_mk,hx];rfl)
   have haf:=(Q5t hx d v (.inl rfl)).ge
   simp only at haf
   have hopt:=hopn t g1
   have hD:VsR H1 nm1 (d++[v]) (dc++[[vc]]):=hd.snoc hv
   have hDi:=hD.ids
   have hcl:=Qh2 hΓ dc (by omega) hdi hd.ones
   refine zA ?_
   refine zS (AStep.neNil0 Tryz.underlying68 rfl rfl rfl) ?_
   refine zM ?_
   refine zS (AStep.neNilBox Tryz.underlying72 rfl rfl rfl) ?_
   refine zM ?_
   refine zS (AStep.eqNil0 Tryz.underlying68 rfl rfl rfl) ?_
   refine zA ?_
   have hkd:=hkid (ouX (mC nilPE ec vc (.box [.box (cTr t),ec2,.sl 1 dc,kc2]) mo ms fu ⟨ac,kt⟩) mo.length ou1) H1 nm1 ⟨.rt v,.mk t e d::k,mo,ms,mh⟩ m' t e (d++[v]) k ec2 kc2 nilPE ec vc (.box [.box (cTr t),ec2,.sl 1 dc,kc2]) (dc++[[vc]]) kt (by rw[←hoX];exact h0) he hD hk g1 g2 (Qc5 g3 ⟨hgm.c,trivial⟩) (by simp;omega) gn g5 (fun hR=>by have:=hkl hR;simp only[List.length_cons]at this;omega) holm hx fun hR=>bndX_k (hbn' hR)
   refine ACode.drawC2 tabOk 26 [13,19,24,25] [(18,.one (.sl 1 [[vc]]))] (fun vs σ=>match vs with
    |[]=>σ=⟨0,[],ouX (mC nilPE ec vc (.box [.box (cTr t),ec2,.sl 1 dc,kc2]) mo ms fu ⟨ac,kt⟩) mo.length ou1⟩
    |[a]=>∃ou2,Qhh dc (ouX (mC nilPE ec vc (.box [.box (cTr t),ec2,.sl 1 dc,kc2]) mo ms fu ⟨ac,kt⟩) mo.length ou1) a (ouX (mC nilPE ec vc (.box [.box (cTr t),ec2,.sl 1 dc,kc2]) mo ms fu ⟨ac,kt⟩) mo.length ou2)/\σ=⟨0,[],ouX (mC nilPE ec vc (.box [.box (cTr t),ec2,.sl 1 dc,kc2]) mo ms fu ⟨ac,kt⟩) mo.length ou2⟩
    |[a,b]=>b=.one (.sl 1 (dc++[[vc]]))/\σ=⟨1,[],ouX (mC nilPE ec vc (.box [.box (cTr t),ec2,.sl 1 dc,kc2]) mo ms fu ⟨ac,kt⟩) mo.length ou1⟩
    |[a,b,c]=>b=.one (.sl 1 (dc++[[vc]]))/\c=.agg [.box (cTr t),ec2,.sl 1 (dc++[[vc]]),kc2]/\σ=⟨1,[],ouX (mC nilPE ec vc (.box [.box (cTr t),ec2,.sl 1 dc,kc2]) mo ms fu ⟨ac,kt⟩) mo.length ou1⟩
    |[a,b,c,g]=>b=.one (.sl 1 (dc++[[vc]]))/\c=.agg [.box (cTr t),ec2,.sl 1 (dc++[[vc]]),kc2]/\g=.one (.box [.box (cTr t),ec2,.sl 1 (dc++[[vc]]),kc2])/\σ=⟨1,[],ouX (mC nilPE ec vc (.box [.box (cTr t),ec2,.sl 1 dc,kc2]) mo ms fu ⟨ac,kt⟩) mo.length ou1⟩
    |_=>False) follows (by kernel_rfl) rfl rfl (by decide) (by kernel_rfl) (by kernel_rfl) rfl rfl ?_ ?_ (by decide) ?_ ?_
   ·intro vs σ h
    match vs with
    |[]=>subst h;rfl
    |[_]=>obtain⟨_,_,rfl⟩:=h;rfl
    |[_,_]=>obtain⟨_,rfl⟩:=h;rfl
    |[_,_,_]=>obtain⟨_,_,rfl⟩:=h;rfl
    |[_,_,_,_]=>obtain⟨_,_,_,rfl⟩:=h;rfl
    |_::_::_::_::_::_=>exact h.elim
   ·intro vs σ h
    exact⟨⟨_,rfl,HStep.auto tabOk rfl⟩,trivial⟩
   ·intro vs σ h i o hi ho
    match vs with
    |[]=>
     subst h;cases hi;cases ho
     refine⟨rfl,.inl (.inr ⟨rfl,Q0m.call hΓ rfl rfl rfl rfl ⟨hdi,trivial⟩ hou (hcl _) fun r ou' hq hr ho=>?_⟩)⟩
     have e:ou'=ouX (mC nilPE ec vc (.box [.box (cTr t),ec2,.sl 1 dc,kc2]) mo ms fu ⟨ac,kt⟩) mo.length ou':=Qd0 (by
      rcases hq with ⟨_,_,rfl⟩|⟨q,_,_,h1,h2⟩
      ·rfl
      ·rw[h2 0 (by rintro rfl;cases h1)];rfl)
     exact⟨ou',by rw[←e];exact hq,by rw[←e]⟩
    |[a]=>
     obtain⟨ou2,hq,rfl⟩:=h;cases hi;cases ho
     rcases hq with ⟨rfl,rfl,h1⟩|⟨q,rfl,h1,h2,h3⟩
     ·refine⟨rfl,.inl (.inl ⟨_,_,AStep.less (σ2:=⟨1,[],ouX (mC nilPE ec vc (.box [.box (cTr t),ec2,.sl 1 _,kc2]) mo ms fu ⟨ac,kt⟩) mo.length ou1⟩) (AStep.weakV (AStep.append tabOk rfl rfl rfl rfl rfl rfl (Base.nil _ _) (.sl 1 [[vc]]) rfl (by show (0+1) * 16<=140737488355328;decide) (by simp)) (.one (.gsE (by simp)))) rfl ?_,rfl,rfl⟩)⟩
      intro i o hi
      cases i with
      |l j=>cases hi
      |o j=>exact (congrFun h1 j).trans hi
     ·refine⟨rfl,.inl (.inl ⟨_,_,AStep.less (σ2:=⟨1,[],ouX (mC nilPE ec vc (.box [.box (cTr t),ec2,.sl 1 _,kc2]) mo ms fu ⟨ac,kt⟩) mo.length ou1⟩) (AStep.weakV (AStep.append tabOk rfl rfl rfl rfl rfl rfl (Base.gs' _ _ _ _ _ h1 rfl) (.sl 1 [[vc]]) rfl (by simp;show _ * 16<=_;omega) (by simp;omega)) (.one (.gsE (by simp)))) rfl ?_,rfl,rfl⟩)⟩
      intro i o hi
      cases i with
      |l j=>cases hi
      |o j=>
       have hjq:j≠q:=by rintro rfl;have h5:=hi;simp only[St.get]at h5;rw[h2]at h5;cases h5
       have h4:=h3 j hjq
       show (bif Nat.beq j q then some AObj.dead else _)=some o
       rw[Q05 hjq]
       exact h4.trans hi
    |[_,_]=>obtain⟨rfl,rfl⟩:=h;cases hi;cases ho;exact⟨rfl,.inl (.inl ⟨_,_,AStep.ofOp tabOk rfl,rfl,rfl,rfl⟩)⟩
    |[_,_,_]=>obtain⟨rfl,rfl,rfl⟩:=h;cases hi;cases ho;exact⟨rfl,.inl (.inl ⟨_,_,AStep.boxI rfl rfl,rfl,rfl,rfl,rfl⟩)⟩
    |_::_::_::_::_=>cases hi
   ·intro vs σ hl h
    match vs with
    |[a,_,_,_]=>
     obtain⟨rfl,rfl,rfl,rfl⟩:=h
     refine AOps.call1 hΓ rfl rfl rfl rfl rfl rfl rfl ⟨trivial,⟨by simp,hei,hDi,hk2i,trivial⟩,trivial⟩ hou hkd fun r ou2 hq _ how=>?_
     obtain⟨rfl,H',nm',m2,hx2,hmo,hM2⟩:=hq
     cases hx2
     refine zA ?_
     exact cInv ⟨g,(ou2,H',nm',m'),_root_.id,by omega,⟨⟨hM2.ex⟩,hgm',hgo,by dsimp only;omega,hbn'⟩,LessR.of rfl zFW (by simp) zLO rfl rfl how⟩
    |[]|[_]|[_,_]|[_,_,_]=>cases hl
    |_::_::_::_::_::_=>exact h.elim
end
structure FragL (hi:Bool)(l:Lab):Prop where
 sh:shpQ l
 op:0<=l.op/\l.op<=8∨hi=true/\(l.op=12∨l.op=13)
 pr:l.op=8->l.n=0∨l.n=1∨l.n=2∨l.n=5∨l.n=6∨l.n=7
 bl:l.binds.length<=1048576
 al:l.alts.length<=1048576
 ab:∀a∈l.alts,a.binds.length<=1048576
 kl:l.ops.length<=1048576
 wd:l.op=1->inW l.n
 rc:l.op=5->∀i,i < l.binds.length->l.ops[i]?=some 2
def G1 (hi:Bool):GP:={ p:=FragL hi,S:=fun _=>True,W:=inW,fns:=[],R:=hi=true }
theorem Qhl{a b:Int}(ha:inW a)(hb:inW b):inW (a.tmod b):=by
 have h1:(a.tmod b).natAbs<=a.natAbs:=by
  rw[Int.natAbs_tmod];exact Nat.mod_le _ _
 unfold inW at *
 have h2:-1073741824<=a.tmod b:=by
  rcases Int.le_total 0 a with h|h
  ·have:=Int.tmod_nonneg b h;omega
  ·omega
 have h3:a.tmod b<=1073741823:=by
  rcases Int.le_total 0 a with h|h
  ·omega
  ·have h4:a.tmod b=-((-a).tmod b):=by rw[Int.neg_tmod];omega
   have:=Int.tmod_nonneg b (show 0<=-a by omega)
   omega
 exact⟨h2,h3⟩
theorem G1ok(hi:Bool):GPok (G1 hi) where
 sh:=fun l h=>h.sh
 bnd:=fun _ _ _ _=>trivial
 wd:=fun l h h1=>h.wd h1
 rc:=fun l h h1=>h.rc h1
 wr:=fun n=>by show inW (wrapW n);unfold inW wrapW;omega
 wl:=fun n h0 h1=>by show inW n;unfold inW;omega
 wm:=fun a b ha hb=>Qhl ha hb
 fn:=fun f hf=>by cases hf
 cl:=fun l h ho=>by
  exfalso
  rcases h.op with h1|⟨_,h1⟩ <;> omega
 rs:=fun l h ho=>by
  rcases h.op with h1|⟨h1,_⟩
  ·omega
  ·exact h1
section
variable {fu:Int}{ac:AC}
theorem list1{α:Type}{l:List α}(h:l.length=1):∃a,l=[a]:=by
 match l,h with
 |[a],_=>exact⟨a,rfl⟩
theorem list2{α:Type}{l:List α}(h:l.length=2):∃a b,l=[a,b]:=by
 match l,h with
 |[a,b],_=>exact⟨a,b,rfl⟩
theorem Qbj{v:Vl}{n:Int}(h:wordV v=.ok n):v=.word n:=by
 cases v with
 |word m=>cases h;rfl
 |_=>cases h
theorem Qec{m m':Ms}{n:Int}{a b v:Vl}(hn:n=0∨n=1∨n=2∨n=5∨n=6)(h:primM fu m n [a,b]=.ok (m',v)):∃x y,a=.word x/\b=.word y:=by
 cases hx:wordV a with
 |error c=>
  exfalso
  rcases hn with rfl|rfl|rfl|rfl|rfl <;> simp[primM,hx,bind,Except.bind]at h
 |ok x=>
  cases hy:wordV b with
  |error c=>
   exfalso
   rcases hn with rfl|rfl|rfl|rfl|rfl <;> simp[primM,hx,hy,bind,Except.bind]at h
  |ok y=>exact⟨x,y,Qbj hx,Qbj hy⟩
end
theorem idle_ok(a b c d:Value)(w:World):CallsD Tryz.prog 51 #[a,b,c,d] .returning w fun e u' w'=>(∃v,e=.returned v)/\u'=.returning/\w'=w:=by
 refine callsD_of_wpS Tryz.func51 rfl fun c₀ cs hu=>?_
 apply wpS_seq
 apply wpS_region
 simp[wpOpsS,go_sem,recoverD,hu,Tryz.ntmps51,Exit.thenS]
 apply wpS_seq
 apply wpS_region
 simp[wpOpsS,go_sem,recoverD,hu,Exit.thenS]
 refine wpS_cond (t:=false) (by simp[Act.eval,Array.replicate]) ?_
 simp only[Bool.false_eq_true,if_false]
 refine wpS_of_wp (wp_skip ?_)
 cases c₀
 simp_all[bodyPostS,results,Tryz.results51]
section
variable {fu:Int}{ac:AC}{G:GP}
theorem Qhj(hΓ:∀g cs,(g,cs)∈Γ->idsL isO cs){ou:Outer}{mf:Ms}{vf:Vl}{kt0:Nat}
  (hrun:AFn Tryz.prog Γ 52 [.one (.ptr (.o 0) 0)] ou (fun r ou'=>r=.one (.lit (.bool true))/\mf.c=.rt vf/\mf.k=[]/\∃H' nm',MR fu ⟨ac,kt0⟩ ou' H' nm' mf)):
  AFn Tryz.prog Γ 34 [.one (.ptr (.o 0) 0)] ou (fun r ou'=>r=.tup [.agg [.sl 1 (mf.out.map cI),int 0,int (lastV vf)],.one (int mf.steps),.one (int 0)]):=by
 refine AFn.ofDefer (gd:=51) (d5:=5) (first:=[]) (caps:=[.ptr (.l 0) 0,.ptr (.l 1) 0,.ptr (.l 2) 0,.ptr (.l 3) 0]) (fr1:=[(4,.one (.ptr (.l 3) 0)),(3,.one (.ptr (.l 2) 0)),(2,.one (.ptr (.l 1) 0)),(1,.one (.ptr (.l 0) 0)),(0,.one (.ptr (.o 0) 0))])
  (σ1 := ⟨4, [(3, .cells [int 0]), (2, .cells [int 0]), (1, .cells [.lit (.slice none 0 0), int 0, int 0]), (0, .cells [.ptr (.o 0) 0])], ou⟩)
  tabOk Tryz.func34 rfl (by kernel_rfl) (by decide) ?_ rfl rfl (by decide) (AStep.ofOp tabOk rfl) rfl rfl rfl ?_ ?_
 ·intro hou
  refine zA ?_
  exact⟨rfl,rfl,rfl⟩
 ·intro us w
  refine⟨?_,fun hs=>?_⟩
  ·simp[callFunc,Tryz.func51,Tryz.f51]
  ·obtain⟨l⟩:=us
   match l,hs with
   |[a,b,c,d],_=>exact idle_ok a b c d w
 ·intro hou ds
  refine zA ?_
  refine AOps.call1 hΓ rfl rfl rfl rfl rfl rfl rfl ⟨trivial,trivial⟩ hou hrun fun r ou' hq _ how=>?_
  obtain⟨rfl,hc,hk,H',nm',hM⟩:=hq
  obtain⟨kt,tc,ec,vc,kc,hCR,hKR,h0⟩:=hM.ex
  rw[hc]at hCR
  cases hCR with
  |rt _ ec vc hv=>
   have hvi:=hv.ids
   have hoX:=h0.ouX
   rw[hoX]at how ⊢
   refine zA ?_
   refine ACode.drawSt tabOk 15 14 [(8,.one (int (lastV vf)))] _ follows (by kernel_rfl) rfl rfl (by kernel_rfl) rfl ?_ rfl rfl rfl rfl ?_ ?_ (AStep.ofStore tabOk rfl) ?_
   ·rfl
   ·exact⟨⟨_,rfl,AStep.callPure hΓ rfl rfl rfl ⟨hvi,trivial⟩ how (Qfy hv)⟩,trivial⟩
   ·exact⟨⟨_,rfl,AStep.callPure hΓ rfl rfl rfl ⟨hvi,trivial⟩ how (Qfy hv)⟩,trivial⟩
   refine zA ?_
   exact AFn.fin' rfl (WkF.tup (.cons (.agg (.cons (.gsE rfl) (.cons (.refl _) (.cons (.refl _) .nil)))) (.cons (.refl _) (.cons (.refl _) .nil)))) (by simp) how rfl
end
abbrev nilS:AC:=.lit (.slice none 0 0)
theorem A_ok(op:Int)(al:List Alt)(ks:List Tr):APure Tryz.prog Γ 60 [.one (int op),.one (.sl 2 (al.map cAlt)),.one (.sl 1 (Q2a ks))] (.one (.box (cNd (.mk op 0 [] ks al)))):=by
 intro ou
 refine AFn.walk 13 tabOk Tryz.func60 rfl (by kernel_rfl) rfl rfl fun hou=>?_
 iterate 14 (first|((with_reducible refine oj ?_);refine zau ?_)|(with_reducible refine zst ?_)|((with_reducible refine Q0g ?_ ?_);rfl)|(with_reducible refine ok ?_;first|refine ACode.condT rfl ?_|refine ACode.condF rfl ?_))
 refine AOps.freeze1 (.l 0) 6 rfl rfl ?_
 refine zA ?_
 refine APure.fin rfl (.one (Wk.box ?_)) (by simp) hou rfl
 exact .cons (.refl _) (.cons (.refl _) (.cons (.nilS 1) (.cons (.any _) (.cons (.refl _) (.cons (.refl _) .nil)))))
theorem Qhg(hΓ:∀g cs,(g,cs)∈Γ->idsL isO cs)(l:List Int)(hl:l.length<=1048576):APure Tryz.prog Γ 41 [.one (.sl 1 (l.map cI)),.one (.sl 1 (l.map cI))] (.one (.lit (.bool true))):=by
 intro ou
 refine AFn.walk 26 tabOk Tryz.func41 rfl (by kernel_rfl) rfl rfl fun hou=>?_
 refine zA ?_
 refine ACode.cond rfl (fun hb=>absurd hb (by simp)) (fun _=>?_)
 refine zA ?_
 refine ACode.loopR hΓ (α:=Nat) (fun i=>[(13,.one (int i)),(12,.one (int (l.map cI).length)),(1,.one (.sl 1 (l.map cI))),(0,.one (.sl 1 (l.map cI)))]) (fun i=>⟨0,[],ou⟩) (fun m i=>i<=l.length/\m=l.length - i) (a0:=0) (ρ:=_root_.id) ⟨by omega,rfl⟩ (LessR.of rfl zFW (by simp) zLO rfl rfl hou) fun m i hi=>?_
 obtain⟨hil,rfl⟩:=hi
 refine zA ?_
 refine ACode.cond rfl (fun hb=>?_) (fun hb=>?_)
 ·have hlt:i < l.length:=by simpa using hb
  clear hb
  obtain⟨x,hx⟩:=Q01 hlt
  refine zA ?_
  refine ACode.drawX tabOk 8 [(2,.one (.box [int x])),(6,.one (.box [int x]))] follows (by kernel_rfl) rfl rfl rfl rfl ?_ ?_
  ·exact⟨⟨_,rfl,zIA rfl rfl rfl (by omega) (Q04 hx)⟩,⟨_,rfl,zIA rfl rfl rfl (by omega) (Q04 hx)⟩,trivial⟩
  refine zA ?_
  refine ACode.cond rfl (fun hb=>absurd hb (by simp)) (fun _=>?_)
  refine zM ?_
  exact cInv ⟨l.length - (i+1),i+1,_root_.id,by omega,⟨by omega,rfl⟩,LessR.of rfl zFW (by simp) zLO rfl rfl hou⟩
 ·refine zA ?_
  exact APure.fin rfl (WkF.ofEq rfl) (by simp) hou rfl
theorem Qd4(n:Int):okT (loopT n):=by simp[loopT,loopF,loopB,tV,tW,okT,okTs]
theorem Qdw(n:Int):cntN (loopT n)=18:=by simp[loopT,loopF,loopB,tV,tW,cntN,cntNs]
theorem Qj7(hΓ:∀g cs,(g,cs)∈Γ->idsL isO cs)(n:Int):APure Tryz.prog Γ 40 [.one (int n)] (.one (.sl 5 ((listT [] (loopT n)).map cEx))):=by
 have hL:=Qcl hΓ (loopT n) (Qd4 n) (by have:=Q1n (loopT n) [];rw[Qdw]at this;simp at this;omega)
 intro ou
 refine AFn.walk 44 tabOk Tryz.func40 rfl (by kernel_rfl) rfl rfl fun hou=>?_
 refine zA ?_
 refine zca hΓ (V_ok hΓ 2) hou ?_
 refine zca hΓ (W_ok hΓ 1) hou ?_
 refine zA ?_
 refine zca hΓ (N_ok (Γ:=Γ) 8 5 [tV 2,tW 1]) hou ?_
 refine zA ?_
 refine zca hΓ (V_ok hΓ 1) hou ?_
 refine zca hΓ (V_ok hΓ 2) hou ?_
 refine zca hΓ (W_ok hΓ 1) hou ?_
 refine zA ?_
 refine zca hΓ (N_ok (Γ:=Γ) 8 1 [tV 2,tW 1]) hou ?_
 refine zA ?_
 refine zca hΓ (N_ok (Γ:=Γ) 3 0 [tV 1,.mk 8 1 [] [tV 2,tW 1] []]) hou ?_
 refine zA ?_
 refine AOps.wk 20 rfl (y:=.one (.sl 2 [[int 1,.sl 1 []],[int (-1),.sl 1 []]])) (.one (Wk.sl (.cons (.cons (.refl _) (.cons (.nilS 1) .nil)) (.cons (.cons (.refl _) (.cons (.nilS 1) .nil)) .nil)))) ?_
 refine zca hΓ (W_ok hΓ 0) hou ?_
 refine zca hΓ (V_ok hΓ 2) hou ?_
 refine zA ?_
 refine zca hΓ (N_ok (Γ:=Γ) 8 0 [tV 2,.mk 3 0 [] [tV 1,.mk 8 1 [] [tV 2,tW 1] []] []]) hou ?_
 refine zA ?_
 refine zca hΓ (A_ok (Γ:=Γ) 7 [⟨1,[]⟩,⟨-1,[]⟩] [.mk 8 5 [] [tV 2,tW 1] [],tW 0,.mk 8 0 [] [tV 2,.mk 3 0 [] [tV 1,.mk 8 1 [] [tV 2,tW 1] []] []] []]) hou ?_
 refine zA ?_
 refine zca hΓ (B_ok (Γ:=Γ) 2 [2] [loopB]) hou ?_
 refine zA ?_
 refine zca hΓ (V_ok hΓ 1) hou ?_
 refine zA ?_
 refine zca hΓ (W_ok hΓ n) hou ?_
 refine zA ?_
 refine zca hΓ (N_ok (Γ:=Γ) 3 0 [tV 1,tW n]) hou ?_
 refine zca hΓ (Qj5 hΓ (.mk 3 0 [] [tV 1,tW n] [])) hou ?_
 refine zA ?_
 refine zca hΓ (B_ok (Γ:=Γ) 5 [1] [loopF,.mk 8 7 [] [.mk 3 0 [] [tV 1,tW n] []] []]) hou ?_
 refine zca hΓ hL hou ?_
 refine zA ?_
 exact APure.fin rfl (WkF.ofEq rfl) (by simp) hou rfl
theorem slot_ok{g:Int}{l:List (List AC)}{n:Nat}{y:AC}(hl:l[n]?=some [y])(hy:y.ids isO):APure Tryz.prog Γ 86 [.one (iB tCap [int g,.sl 1 l]),.one (int n)] (.one y):=by
 have hlt:n < l.length:=(List.getElem?_eq_some_iff.1 hl).1
 intro ou
 refine AFn.walk 32 tabOk Tryz.func86 rfl (by kernel_rfl) rfl rfl fun hou=>?_
 refine zA ?_
 refine zS (AStep.assertYes Q7q rfl rfl) ?_
 refine zM ?_
 refine ACode.cond rfl (fun hb=>absurd hb (by simp;omega)) (fun _=>?_)
 refine zA ?_
 refine zS (zIA rfl rfl rfl (by omega) hl) ?_
 refine zA ?_
 exact APure.fin rfl (WkF.ofEq rfl) hy hou rfl
section
variable {fu:Int}{fc:FcT}{fns:List Fun}{ou:Outer}{H:Hm}{nm:Nm2}{m m1:Ms}{v:Vl}{tc ec vc kc:AC}{t:Tr}{e:En}{d:List Vl}{k:List Fm}{dc:List (List AC)}{tc0 ec0 vc0 kc0:AC}
theorem Qic(hΓ:∀g cs,(g,cs)∈Γ->idsL isO cs)(h0:M0 fu fc ou H nm m tc0 ec0 vc0 kc0)(hfc:fc.ids isO)(he:ER H nm e ec){g:Int}{sl:List Vl}{c:AC}(hd:VR H nm (.cap g sl) c)(hk:KR H nm k kc)(hkl:t.kids.length=1)(h16:t.op=16){n:Nat}(hn:t.n=(n:Int))(hv:sl[n]?=some v):
  AFn Tryz.prog Γ 69 [.one (.ptr (.o 0) 0),.one (.box [.box (cTr t),ec,.sl 1 [[c]],kc])] ou (StQ fu fc H nm (.ok { m with c:=.rt v,k:=k })):=by
 have hN:=Q5r h0 hk hfc
 have hei:=he.ids
 have hdi:=hd.ids
 have hki:=hk.ids
 have hw:=hN.w
 have hoX:=h0.ouX
 rw[hoX]
 generalize hmc:ou=ou0 at hN hw
 clear hoX
 obtain⟨g',sl',l,e1,rfl,hsl⟩:∃g' sl' l,Vl.cap g sl=.cap g' sl'/\c=iB tCap [int g',.sl 1 l]/\VsR H nm sl' l:=by
  rcases hd.isCap with ⟨n,fs,cs,h1,h2,h3⟩|⟨h1,_⟩
  ·exact⟨n,fs,cs,h1,h2,h3⟩
  ·exact absurd rfl (h1 g sl)
 cases e1
 obtain⟨y,hy,hvy⟩:=hsl.get hv
 have hyi:=hvy.ids
 have hll:=hsl.len
 obtain⟨o,tn,b,ks,al⟩:=t
 simp only[Tr.op,Tr.n,Tr.kids]at h16 hn hkl
 subst h16;subst hn
 have hop:opdN (.mk 16 (n:Int) b ks al)=1:=by show ks.length=1;exact hkl
 have hs:=slot_ok (Γ:=Γ) (g:=g) hy hyi
 refine AFn.walk 262 tabOk Tryz.func69 rfl (by kernel_rfl) rfl rfl fun hou=>?_
 refine zA ?_
 refine ACode.drawX tabOk 10 [(9,.one (int (opdN (.mk 16 (n:Int) b ks al))))] follows (by kernel_rfl) rfl rfl rfl rfl ?_ ?_
 ·exact⟨⟨_,rfl,AStep.callPure hΓ rfl rfl rfl (by simp[idsF]) hou (Q3r _)⟩,trivial⟩
 refine zA ?_
 refine ACode.cond rfl (fun hb=>absurd hb (by simp[hop])) (fun hb=>?_)
 refine zA ?_
 refine ACode.stEq (σ':=⟨0,[],ouX (mC tc0 ec0 vc0 kc m.out m.steps fu fc) m.out.length ou0⟩) (setX _ _ _ _) ?_
 refine zA ?_
 refine ACode.drawCS tabOk 19 15 16 17 18 (.one (.ptr (.o 0) 0)) (.one (.ptr (.o 0) 0)) [(6,.one (.box [iB tCap [int g,.sl 1 l]]))]
  (fun r σ=>r=.one y/\σ=⟨0,[],ouX (mC tc0 ec0 vc0 kc m.out m.steps fu fc) m.out.length ou0⟩)
  (fun r σ=>r=.one y/\σ=⟨0,[],ouX (mC nilPE ec0 vc0 kc m.out m.steps fu fc) m.out.length ou0⟩)
  follows (by kernel_rfl) rfl rfl (by decide) (by kernel_rfl) (by kernel_rfl) rfl rfl rfl rfl rfl rfl rfl ?_ ?_ ?_ ?_ ?_ ?_ ?_ ?_ ?_ ?_
 ·rintro r σ ⟨rfl,rfl⟩;rfl
 ·rintro r σ ⟨rfl,rfl⟩;rfl
 ·exact⟨⟨_,rfl,zIA rfl rfl rfl (by decide) rfl⟩,trivial⟩
 ·rintro r σ ⟨rfl,rfl⟩
  exact⟨⟨_,rfl,zIA rfl rfl rfl (by decide) rfl⟩,trivial⟩
 ·rintro r σ ⟨rfl,rfl⟩
  exact⟨⟨_,rfl,zIA rfl rfl rfl (by decide) rfl⟩,trivial⟩
 ·refine Q2z.ofR (Q0m.call hΓ rfl rfl rfl rfl ⟨hdi,trivial,trivial⟩ hw.ok (hs _) fun r ou' hq hr ho=>?_)
  obtain⟨rfl,rfl⟩:=hq
  exact⟨rfl,rfl⟩
 ·rintro r σ ⟨rfl,rfl⟩;exact AStep.ofOp tabOk rfl
 ·rintro r σ ⟨rfl,rfl⟩;exact AStep.ofOp tabOk rfl
 ·rintro r σ ⟨rfl,rfl⟩;exact⟨_,⟨rfl,setX _ _ _ _⟩,AStep.ofStore tabOk rfl⟩
 ·rintro r σ ⟨rfl,rfl⟩
  refine zA ?_
  exact StQ.fin rfl rfl (.refl _ _) (MR.ofRt hw hvy hk h0.ids.2.1 hfc rfl rfl (fun _=>rfl))
theorem Qie(hΓ:∀g cs,(g,cs)∈Γ->idsL isO cs)(h0:M0 fu fc ou H nm m tc0 ec0 vc0 kc0)(hfc:fc.ids isO)(he:ER H nm e ec)(hd:VsR H nm d dc)(hk:KR H nm k kc)(hl:d.length=t.kids.length)(h15:t.op=15):
  AFn Tryz.prog Γ 69 [.one (.ptr (.o 0) 0),.one (.box [.box (cTr t),ec,.sl 1 dc,kc])] ou (StQ fu fc H nm (.ok { m with c:=.rt (.cap t.n d),k:=k })):=by
 have hN:=Q5r h0 hk hfc
 have hei:=he.ids
 have hdi:=hd.ids
 have hki:=hk.ids
 have hdl:=hd.len
 have hw:=hN.w
 have hoX:=h0.ouX
 rw[hoX]
 generalize hmc:ou=ou0 at hN hw
 clear hoX
 obtain⟨o,n,b,ks,al⟩:=t
 simp only[Tr.op,Tr.kids]at h15 hl
 subst h15
 have hop:opdN (.mk 15 n b ks al)=ks.length:=rfl
 refine AFn.walk 262 tabOk Tryz.func69 rfl (by kernel_rfl) rfl rfl fun hou=>?_
 refine zA ?_
 refine ACode.drawX tabOk 10 [(9,.one (int (opdN (.mk 15 n b ks al))))] follows (by kernel_rfl) rfl rfl rfl rfl ?_ ?_
 ·exact⟨⟨_,rfl,AStep.callPure hΓ rfl rfl rfl (by simp[idsF]) hou (Q3r _)⟩,trivial⟩
 refine zA ?_
 refine ACode.cond rfl (fun hb=>absurd hb (by simp[hop,hdl,hl])) (fun hb=>?_)
 refine zA ?_
 refine ACode.stEq (σ':=⟨0,[],ouX (mC tc0 ec0 vc0 kc m.out m.steps fu fc) m.out.length ou0⟩) (setX _ _ _ _) ?_
 refine zA ?_
 refine ACode.drawSt tabOk 19 18 [(14,.one (.box [int n,.sl 1 dc])),(15,.one (iB tCap [int n,.sl 1 dc]))] _ follows (by kernel_rfl) rfl rfl (by kernel_rfl) rfl ?_ rfl rfl rfl rfl ?_ ?_ (AStep.ofStore tabOk rfl) ?_
 ·rfl
 ·exact⟨⟨_,rfl,AStep.boxI rfl rfl⟩,⟨_,rfl,AStep.mkIfc Q7q rfl rfl⟩,trivial⟩
 ·exact⟨⟨_,rfl,AStep.boxI rfl rfl⟩,⟨_,rfl,AStep.mkIfc Q7q rfl rfl⟩,trivial⟩
 refine zA ?_
 exact StQ.fin rfl rfl (.refl _ _) (MR.ofRt hw (.cap n d dc hd) hk h0.ids.2.1 hfc rfl rfl (fun _=>rfl))
end
abbrev VA:={c:AC // c.ids isO}
def cV (v:VA):List AC:=[v.1]
theorem Qgf{p:Abs.Id->Prop}(hp:∀i,isO i->p i)(l:List VA):idsS p (l.map cV):=Q1q (f:=cV) (fun v=>⟨AC.ids_mono hp v.1 v.2,trivial⟩) l
theorem Q3t(k:Nat):∀i,isO i->inL k i:=fun i hi=>by cases i with|l k=>exact hi.elim|o k=>trivial
@[simp] theorem ids_cV_l (k:Nat) (l:List VA):idsS (inL k) (l.map cV):=Qgf (Q3t k) _
@[simp] theorem Qih (l:List VA):idsS isO (l.map cV):=Qgf (fun _ h=>h) _
def GrwQV (ou:Outer)(r:FV)(ou':Outer):Prop:=
 (r=.one (.lit (.slice none 0 0))/\ou'=ou)∨∃k cap,ou k=none/\r=.one (.arr (.o k) 1 0 0 cap)/\ou'=updO ou k (.cells (vec 1 [] cap))
theorem Qhe(n:Nat)(hn:n<=1048576)(ou:Outer):AFn Tryz.prog Γ 115 [.one (.lit (.slice none 0 0)),.one (int n)] ou (GrwQV ou):=by
 refine AFn.walk 27 tabOk Tryz.func115 rfl (by kernel_rfl) rfl rfl fun hou=>?_
 refine zA ?_
 refine zS (AStep.capNil tabOk rfl rfl rfl rfl) ?_
 refine zM ?_
 refine ACode.cond rfl (fun hb=>?_) (fun hb=>?_)
 ·have hn0:0 < n:=by simp at hb;omega
  refine zA ?_
  refine zS (AStep.capNil tabOk rfl rfl rfl rfl) ?_
  refine zA ?_
  refine zS (AStep.sliceNilTo tabOk rfl rfl rfl rfl rfl rfl) ?_
  refine zA ?_
  refine AOps.wk 21 rfl (y:=.one (int n)) (.ofEq (by simp)) ?_
  refine AOps.stepR rfl rfl rfl (Q0m.appZeros0 (m:=n) (s:=1) tabOk rfl rfl rfl rfl rfl Tryz.underlying3 rfl rfl hn0 (by show _ * 16<=_;omega) (by omega)) ?_
  rintro v σ' ⟨cap,hcap,rfl,rfl⟩
  refine zA ?_
  refine zS (AStep.sliceOwn (a:=0) (b:=0) (c:=cap) tabOk rfl rfl rfl rfl rfl rfl rfl ⟨.i64,rfl⟩ rfl (fun h=>by cases h) (by omega) (by omega) (by omega)) ?_
  rw[show (AC.arr (.l 0) 1 (if cap=0 then 0 else 0) (0 - 0) (cap - 0))=.arr (.l 0) 1 0 0 cap by simp]
  refine AOps.cede 0 (show 0 < 1 by omega) fun k hk=>⟨[(25,.one (.arr (.o k) 1 0 0 cap))],⟨1,[],updO ou k (.cells (vec 1 [] cap))⟩,⟨CedFr.get (.cons rfl rfl .nil),rfl,fun i x hx=>?_⟩,?_⟩
  ·have hk:ou k=none:=hk
   cases i with
   |l m=>cases hx
   |o m=>
    have hx':updO ou k (.cells (vec 1 [] cap)) m=some x:=hx
    by_cases e:k=m
    ·subst e;rw[Q0a]at hx';cases hx'
     exact⟨.l 0,_,rfl,rfl,(AObj.sub_o _ (Q35 _ (by simp))).symm⟩
    ·rw[Q0j _ e]at hx'
     exact⟨.o m,x,hx',rfl,(AObj.sub_o x (hou m x hx')).symm⟩
  refine zA ?_
  exact AFn.fin' rfl (.refl _) (by simp) (updO_ok hou (Q35 _ (by simp))) (.inr ⟨k,cap,hk,rfl,rfl⟩)
 ·refine zA ?_
  exact AFn.fin' rfl (.refl _) (by simp) hou (.inl ⟨rfl,rfl⟩)
def cLV (l:List VA):List AC:=[.sl 1 (l.map cV)]
theorem Qgg{p:Abs.Id->Prop}(hp:∀i,isO i->p i)(ll:List (List VA)):idsS p (ll.map cLV):=Q1q (f:=cLV) (fun l=>⟨Qgf hp l,trivial⟩) ll
@[simp] theorem ids_cL_lV (k:Nat) (ll:List (List VA)):idsS (inL k) (ll.map cLV):=Qgg (Q3t k) ll
@[simp] theorem ids_cL_oV (ll:List (List VA)):idsS isO (ll.map cLV):=Qgg (fun _ h=>h) ll
def catV (ll:List (List VA))(i:Nat):List VA:=(ll.take i).flatten
theorem Qb8{ll:List (List VA)}{i:Nat}{l:List VA}(h:ll[i]?=some l):catV ll (i+1)=catV ll i++l:=by unfold catV;rw[Q1r h];simp
theorem Qb9(ll:List (List VA)):catV ll ll.length=ll.flatten:=by unfold catV;rw[List.take_length]
theorem cat_leV(ll:List (List VA))(j:Nat):(catV ll j).length<=ll.flatten.length:=by
 have:=congrArg (fun z=>z.flatten.length) (List.take_append_drop j ll)
 simp only[List.flatten_append,List.length_append]at this
 unfold catV;omega
theorem Qez(hΓ:∀g cs,(g,cs)∈Γ->idsL isO cs)(ll:List (List VA))(hl:ll.length<=1048576)(hs:ll.flatten.length<=1048576):
  APure Tryz.prog Γ 102 [.one (.sl 1 (ll.map cLV))] (.one (.sl 1 (ll.flatten.map cV))):=by
 intro ou
 have hpre:=cat_leV ll
 refine AFn.walk 36 tabOk Tryz.func102 rfl (by kernel_rfl) rfl rfl fun hou=>?_
 refine zA ?_
 refine ACode.loopR hΓ (α:=Nat) (fun j=>[(11,.one (int j)),(10,.one (int (ll.map cLV).length)),(9,.one (.sl 1 (ll.map cLV))),(3,.one (int (catV ll j).length)),(0,.one (.sl 1 (ll.map cLV)))])
  (fun j=>⟨0,[],ou⟩) (fun m j=>j<=ll.length/\m=ll.length - j) (a0:=0) (ρ:=id) ⟨by omega,rfl⟩ (LessR.of rfl zFS (by simp) zLO rfl rfl hou) fun m j hj=>?_
 obtain⟨hjl,rfl⟩:=hj
 refine zA ?_
 refine ACode.cond rfl (fun hb=>?_) (fun hb=>?_)
 ·have hlt:j < ll.length:=by simpa using hb
  clear hb
  obtain⟨l,hx⟩:=Q01 hlt
  have hsn:(catV ll (j+1))=(catV ll j)++l:=Qb8 hx
  have hle:=hpre (j+1)
  rw[hsn,List.length_append]at hle
  refine zA ?_
  refine zS (zIA rfl rfl rfl (by omega) (Q04 hx)) ?_
  refine zM ?_
  exact cInv ⟨ll.length - (j+1),j+1,id,by omega,⟨by omega,rfl⟩,LessR.of rfl (FrSub.cons rfl (.ofEq rfl) (FrSub.cons rfl (.ofEq rfl) (FrSub.consP rfl (.ofEq rfl) (by simp) (FrSub.cons rfl (.ofEq (by simp[hsn,FV.ren,AC.ren])) (FrSub.consP rfl (.ofEq rfl) (by simp) .nil))))) (by simp) zLO rfl rfl hou⟩
 ·have hlt:j=ll.length:=by simp at hb;omega
  subst hlt
  rw[Qb9]
  refine zA ?_
  refine AOps.cutN 0 rfl hΓ (α:=Option Nat) (fun oc=>[(6,.one (oaC 0 1 [] oc)),(0,.one (.sl 1 (ll.map cLV)))]) (fun oc=>⟨1,[(0,oaO 1 [] oc)],ou⟩) (fun oc=>coO ([]:List (List AC)) oc) ?_ fun oc hoc=>?_
  ·dsimp only [List.take_zero,List.nil_append]
   refine AOps.call1 hΓ rfl rfl rfl rfl rfl rfl rfl (by exact⟨trivial,trivial,trivial⟩) hou (Qhe ll.flatten.length hs ou) fun r ou' hq _ hov=>?_
   rcases hq with ⟨rfl,rfl⟩|⟨k,cap,hk,rfl,rfl⟩
   ·refine AOps.ghost ?_
    refine zA ?_
    exact cInv ⟨none,id,rfl,LessR.of rfl zFS (by simp) zLO rfl rfl hou⟩
   ·refine AOps.adopt hk (Q35 _ (by simp)) ?_
    refine AOps.wk 24 rfl (y:=.one (oaC 0 1 [] (some cap))) (.ofEq (by simp[FV.sub,AC.sub,toL,oaC])) ?_
    refine zA ?_
    exact cInv ⟨some cap,id,by simp[coO],LessR.of rfl zFS (by simp) (LoSub.cons rfl (show AObj.cells (vec 1 [] cap)=AObj.ren id (oaO 1 [] (some cap))from (Qfl id 1 [] (some cap) fun _=>Qc1 (by simp)).symm) rfl (Qc2 (by simp)) .nil) rfl rfl hou⟩
  refine zA ?_
  refine ACode.loopR hΓ (α:=Nat×Option Nat) (fun c=>[(27,.one (int c.1)),(26,.one (int (ll.map cLV).length)),(25,.one (.sl 1 (ll.map cLV))),(6,.one (oaC 0 1 ((catV ll c.1).map cV) c.2))])
   (fun c=>⟨1,[(0,oaO 1 ((catV ll c.1).map cV) c.2)],ou⟩) (fun m c=>c.1<=ll.length/\coO ((catV ll c.1).map cV) c.2/\m=ll.length - c.1) (a0:=(0,oc)) (ρ:=id) ⟨by omega,hoc,rfl⟩ (LessR.of rfl ?_ (by simp) zLO rfl rfl hou) fun m c hc=>?_
  ·(repeat' first|exact FrSub.nil|refine zfc ?_|refine zfo ?_|refine zfp ?_)
  obtain⟨i,oc⟩:=c
  obtain⟨hil,hco,rfl⟩:=hc
  dsimp only at hil hco
  refine zA ?_
  refine ACode.cond rfl (fun hb2=>?_) (fun hb2=>?_)
  ·have hlt:i < ll.length:=by simpa using hb2
   clear hb2
   obtain⟨l,hx⟩:=Q01 hlt
   have hsn:(catV ll (i+1))=(catV ll i)++l:=Qb8 hx
   have hle:=hpre (i+1)
   rw[hsn,List.length_append]at hle
   refine zA ?_
   refine zS (zIA rfl rfl rfl (by omega) (Q04 hx)) ?_
   refine zA ?_
   by_cases hxe:l=[]
   ·subst hxe
    rw[List.append_nil]at hsn
    refine AOps.appG0 (k:=0) (s:=1) (es:=(catV ll i).map cV) (oc:=oc) tabOk rfl rfl rfl rfl rfl rfl rfl rfl rfl ?_
    refine zM ?_
    exact cInv ⟨ll.length - (i+1),(i+1,oc),id,by omega,⟨by omega,by dsimp only;rw[hsn];exact hco,rfl⟩,LessR.of rfl (by dsimp only;rw[hsn];(repeat' first|exact FrSub.nil|refine zfc ?_|refine zfo ?_|refine zfp ?_)) (by simp) (by dsimp only;rw[hsn];repeat' first|exact LoSub.nil|refine zlc ?_|refine zld ?_ ?_|rfl) rfl rfl hou⟩
   ·refine AOps.appG (k:=0) (s:=1) (es:=(catV ll i).map cV) (oc:=oc) (news:=l.map cV) tabOk rfl rfl rfl rfl rfl rfl rfl rfl rfl rfl hco (fun y hy=>by obtain⟨z,_,rfl⟩:=List.mem_map.1 hy;rfl) (.sl 1 _) (by simpa using hxe) rfl (by simp only[List.length_map];show (_+_) * 16<=_;omega) (by simp only[List.length_map];omega) fun cap hc=>?_
    rw[←List.map_append,←hsn]at hc ⊢
    refine zM ?_
    exact cInv ⟨ll.length - (i+1),(i+1,some cap),fun _=>1,by omega,⟨by omega,hc,rfl⟩,LessR.of rfl zFS (by simp) zLO rfl rfl hou⟩
  ·have hlt:i=ll.length:=by simp at hb2;omega
   subst hlt
   have hfu:=Qb9 ll
   repeat ((fail_if_success ((with_reducible refine oj ?_);refine AOps.atDst 35 rfl ?_));first|refine zO ?_)
   refine AOps.freezeG 0 6 rfl hco (fun y hy=>by obtain⟨z,_,rfl⟩:=List.mem_map.1 hy;rfl) rfl ?_
   refine zA ?_
   exact APure.fin rfl (WkF.ofEq (by rw[hfu])) (by rw[←hfu];simp) hou rfl
def cFun (f:Fun):List AC:=[.sl 1 (f.params.map cI),.box (cTr f.body)]
theorem Q6n(p:Abs.Id->Prop)(l:List Fun):idsS p (l.map cFun):=Q1q (f:=cFun) (fun f=>by simp[cFun]) l
@[simp] theorem ids_cFun_l (k:Nat) (l:List Fun):idsS (inL k) (l.map cFun):=Q6n _ l
@[simp] theorem Q8i (l:List Fun):idsS isO (l.map cFun):=Q6n _ l
section
variable {fu:Int}{kt:Nat}{fns:List Fun}{ou:Outer}{H:Hm}{nm:Nm2}{m:Ms}{v:Vl}{tc ec vc kc:AC}{t:Tr}{e:En}{d:List Vl}{k:List Fm}{dc:List (List AC)}{tc0 ec0 vc0 kc0:AC}
theorem kid_fn(hΓ:∀g cs,(g,cs)∈Γ->idsL isO cs)(h0:M0 fu ⟨.sl 2 (fns.map cFun),kt⟩ ou H nm m tc0 ec0 vc0 kc0)(he:ER H nm e ec)(hd:VsR H nm d dc)(hk:KR H nm k kc)(hl:d.length=t.kids.length)(h14:t.op=14){i:Nat}(hn:t.n=(i:Int)){f:Fun}(hf:fns[i]?=some f)(hpl:f.params.length=d.length)(h20:f.params.length<=1048576):
  AFn Tryz.prog Γ 69 [.one (.ptr (.o 0) 0),.one (.box [.box (cTr t),ec,.sl 1 dc,kc])] ou (StQ fu ⟨.sl 2 (fns.map cFun),kt⟩ H nm (.ok { m with c:=.ev f.body (allE .nil f.params d),k:=k })):=by
 have hfc:(FcT.mk (.sl 2 (fns.map cFun)) kt).ids isO:=by show idsS isO _;simp
 have hN:=Q5r h0 hk hfc
 have hei:=he.ids
 have hdi:=hd.ids
 have hki:=hk.ids
 have hdl:=hd.len
 have hw:=hN.w
 have hoX:=h0.ouX
 rw[hoX]
 generalize hmc:ou=ou0 at hN hw
 clear hoX
 obtain⟨o,n,b,ks,al⟩:=t
 simp only[Tr.op,Tr.n,Tr.kids]at h14 hn hl
 subst h14;subst hn
 have hop:opdN (.mk 14 (i:Int) b ks al)=ks.length:=rfl
 have hsc:(fns.map cFun)[i]?=some (cFun f):=by rw[List.getElem?_map,hf];rfl
 refine AFn.walk 262 tabOk Tryz.func69 rfl (by kernel_rfl) rfl rfl fun hou=>?_
 refine zA ?_
 refine ACode.drawX tabOk 10 [(9,.one (int (opdN (.mk 14 (i:Int) b ks al))))] follows (by kernel_rfl) rfl rfl rfl rfl ?_ ?_
 ·exact⟨⟨_,rfl,AStep.callPure hΓ rfl rfl rfl (by simp[idsF]) hou (Q3r _)⟩,trivial⟩
 refine zA ?_
 refine ACode.cond rfl (fun hb=>absurd hb (by simp[hop,hdl,hl])) (fun hb=>?_)
 refine zA ?_
 refine ACode.stEq (σ':=⟨0,[],ouX (mC tc0 ec0 vc0 kc m.out m.steps fu ⟨.sl 2 (fns.map cFun),kt⟩) m.out.length ou0⟩) (setX _ _ _ _) ?_
 refine zA ?_
 refine ACode.drawXA tabOk 14 13 [(11,.one (.box (cFun f)))] follows (by kernel_rfl) rfl rfl rfl rfl rfl rfl rfl rfl rfl ?_ ?_ ?_
 ·exact⟨⟨_,rfl,zIA rfl rfl rfl (by show (0:Int)<=(i:Int);omega) (by simpa using hsc)⟩,trivial⟩
 ·exact⟨⟨_,rfl,zIA rfl rfl rfl (by show (0:Int)<=(i:Int);omega) (by simpa using hsc)⟩,trivial⟩
 refine zA ?_
 refine ACode.drawCS tabOk 14 10 11 12 13 (.one (.ptr (.o 0) 0)) (.one (.ptr (.o 0) 0)) []
  (GrS (mC tc0 ec0 vc0 kc m.out m.steps fu ⟨.sl 2 (fns.map cFun),kt⟩) m.out.length ou0 H (mC tc0 ec0 vc0 kc m.out m.steps fu ⟨.sl 2 (fns.map cFun),kt⟩) (1,[(0,.cells (cFun f)),(0,.cells (List.map AC.lit ti90.zero))]) fun v H1=>∃c,v=.one c/\ER H1 nm (allE .nil f.params d) c)
  (GrS (mC tc0 ec0 vc0 kc m.out m.steps fu ⟨.sl 2 (fns.map cFun),kt⟩) m.out.length ou0 H (mC (.box (cTr f.body)) ec0 vc0 kc m.out m.steps fu ⟨.sl 2 (fns.map cFun),kt⟩) (1,[(0,.cells (cFun f)),(0,.cells (List.map AC.lit ti90.zero))]) fun v H1=>∃c,v=.one c/\ER H1 nm (allE .nil f.params d) c)
  follows (by kernel_rfl) rfl rfl (by decide) (by kernel_rfl) (by kernel_rfl) rfl rfl rfl rfl rfl rfl rfl ?_ ?_ trivial (fun _ _ _=>trivial) (fun _ _ _=>trivial) ?_ ?_ ?_ ?_ ?_
 ·rintro v σ ⟨ou1,H1,rfl,_,_⟩;rfl
 ·rintro v σ ⟨ou1,H1,rfl,_,_⟩;rfl
 ·refine Q2z.ofR (Q0m.call hΓ rfl rfl rfl rfl ⟨trivial,by simp,hdi,trivial⟩ hw.ok (Qh7 hΓ (.nil (H:=H) (nm:=nm)) hd hpl h20 _ hw.inO) fun r ou' hq hr ho=>?_)
  obtain⟨H1,c1,rfl,hg,hec⟩:=hq
  exact GrS.of hg ⟨c1,rfl,hec⟩
 ·rintro v σ ⟨ou1,H1,rfl,_,_,rfl,_⟩;exact AStep.ofOp tabOk rfl
 ·rintro v σ ⟨ou1,H1,rfl,_,_,rfl,_⟩;exact AStep.ofOp tabOk rfl
 ·rintro v σ ⟨ou1,H1,rfl,h1,h2⟩;exact⟨_,⟨ou1,H1,setXs _ _ _ _ _ _,h1,h2⟩,AStep.ofStore tabOk rfl⟩
 ·rintro v' σ ⟨ou1,H1,rfl,h1,c1,rfl,h3⟩
  refine zA ?_
  have hw2:=hw.gro h1 (by simp[ouX]) (by simp[ouX])
  have hM:MR fu ⟨.sl 2 (fns.map cFun),kt⟩ _ H1 nm { m with c:=.ev f.body (allE .nil f.params d),k:=k }:=MR.ofEv (ou':=(St.set ⟨0,[],ouX (mC (.box (cTr f.body)) ec0 vc0 kc m.out m.steps fu ⟨.sl 2 (fns.map cFun),kt⟩) m.out.length ou1⟩ (.o 0) (.cells (mC (.box (cTr f.body)) c1 vc0 kc m.out m.steps fu ⟨.sl 2 (fns.map cFun),kt⟩))).ou) hw2 h3 (hk.mo (h1.mo nm)) h0.ids.2.2.1 hfc rfl rfl (fun _=>rfl)
  refine AFn.fin' rfl (WkF.refl _) (by simp) hM.ok ⟨rfl,H1,nm,_,?_,h1.mo nm,hM⟩
  rfl
end
section
variable {fu:Int}{kt:Nat}{fns:List Fun}{ou:Outer}{H:Hm}{nm:Nm2}{m:Ms}{k:List Fm}{kc tc0 ec0 vc0:AC}
theorem VsR.va:∀{l:List Vl}{cs:List (List AC)},VsR H nm l cs->∃lv:List VA,cs=lv.map cV
 |_,_,.nil=>⟨[],rfl⟩
 |_,_,.cons v c vs cs hv h=>by
  obtain⟨lv,rfl⟩:=VsR.va h
  exact⟨⟨c,hv.ids⟩::lv,rfl⟩
theorem Qiv(hΓ:∀g cs,(g,cs)∈Γ->idsL isO cs)(h0:M0 fu ⟨.sl 2 (fns.map cFun),kt⟩ ou H nm m tc0 ec0 vc0 kc)(hk:KR H nm k kc){n:Nat}{sl:List Vl}{c:AC}(hv:VR H nm (.cap (n:Int) sl) c){f:Fun}(hf:fns[n]?=some f){l:List Vl}{cs:List (List AC)}(hl:VsR H nm l cs)(hpl:f.params.length=l.length+1)(h20:f.params.length<=1048576):
  AFn Tryz.prog Γ 83 [.one (.ptr (.o 0) 0),.one c,.one (.sl 1 cs)] ou (StQ fu ⟨.sl 2 (fns.map cFun),kt⟩ H nm (.ok { m with c:=.ev f.body (allE .nil f.params (.cap (n:Int) sl::l)),k:=k })):=by
 have hfc:(FcT.mk (.sl 2 (fns.map cFun)) kt).ids isO:=by show idsS isO _;simp
 have hoX:=h0.ouX
 have hki:=hk.ids
 have hvi:=hv.ids
 have hli:=hl.ids
 have hll:=hl.len
 rw[hoX]
 have hw:=h0.w
 rw[hoX]at hw
 generalize hmc:ou=ou0 at hw
 clear hoX
 have hvl:=VsR.cons (H:=H) (nm:=nm) _ _ _ _ hv hl
 obtain⟨lv,rfl⟩:=hl.va
 obtain⟨scs,rfl⟩:∃scs,c=iB tCap [int n,.sl 1 scs]:=by
  rcases hv.isCap with ⟨g,fs,cs,h1,h2,h3⟩|⟨h1,_⟩
  ·cases h1;exact⟨cs,h2⟩
  ·exact absurd rfl (h1 _ sl)
 have n1:notT tClo (iB tCap [int n,.sl 1 scs]):=.inr ⟨_,_,_,rfl,rfl⟩
 have hsc:(fns.map cFun)[n]?=some (cFun f):=by rw[List.getElem?_map,hf];rfl
 have hcat:=Qez (Γ:=Γ) hΓ [[⟨iB tCap [int n,.sl 1 scs],hvi⟩],lv] (by simp) (by simp;simp at hll;omega)
 refine AFn.walk 137 tabOk Tryz.func83 rfl (by kernel_rfl) rfl rfl fun hou=>?_
 refine zA ?_
 refine zS (AStep.assertNo concClo rfl zClo rfl rfl n1) ?_
 refine zA ?_
 refine zS (AStep.assertYes Q7q rfl rfl) ?_
 refine zA ?_
 refine ACode.drawXA tabOk 11 10 [(8,.one (.box (cFun f)))] follows (by kernel_rfl) rfl rfl rfl rfl rfl rfl rfl rfl rfl ?_ ?_ ?_
 ·exact⟨⟨_,rfl,zIA rfl rfl rfl (by show (0:Int)<=(n:Int);omega) (by simpa using hsc)⟩,trivial⟩
 ·exact⟨⟨_,rfl,zIA rfl rfl rfl (by show (0:Int)<=(n:Int);omega) (by simpa using hsc)⟩,trivial⟩
 refine zM ?_
 refine ACode.cond rfl (fun _=>?_) (fun hb=>absurd hb (by simp at hll;simp;omega))
 refine zA ?_
 refine ACode.stEq (σ':=⟨2,[(1,.cells (cFun f)),(1,.cells (List.map AC.lit ti90.zero)),(0,.cells [.ptr (.o 0) 0])],ouX (mC tc0 ec0 vc0 kc m.out m.steps fu ⟨.sl 2 (fns.map cFun),kt⟩) m.out.length ou0⟩) rfl ?_
 refine ACode.drawC2 tabOk 16 [11,12,13,14,15] [(7,.one (iB tCap [int n,.sl 1 scs])),(8,.one (.sl 1 [[iB tCap [int n,.sl 1 scs]]])),(10,.one (.sl 1 [[.sl 1 [[iB tCap [int n,.sl 1 scs]]]],[.sl 1 (lv.map cV)]]))] (fun vs σ=>match vs with
  |[]=>σ=⟨2,[(1,.cells (cFun f)),(1,.cells (List.map AC.lit ti90.zero)),(0,.cells [.ptr (.o 0) 0])],ouX (mC tc0 ec0 vc0 kc m.out m.steps fu ⟨.sl 2 (fns.map cFun),kt⟩) m.out.length ou0⟩
  |[x]=>x=.one (.sl 1 ([[⟨iB tCap [int n,.sl 1 scs],hvi⟩],lv].flatten.map cV))/\σ=⟨2,[(1,.cells (cFun f)),(1,.cells (List.map AC.lit ti90.zero)),(0,.cells [.ptr (.o 0) 0])],ouX (mC tc0 ec0 vc0 kc m.out m.steps fu ⟨.sl 2 (fns.map cFun),kt⟩) m.out.length ou0⟩
  |[x,y]=>GrS (mC tc0 ec0 vc0 kc m.out m.steps fu ⟨.sl 2 (fns.map cFun),kt⟩) m.out.length ou0 H (mC tc0 ec0 vc0 kc m.out m.steps fu ⟨.sl 2 (fns.map cFun),kt⟩) (2,[(1,.cells (cFun f)),(1,.cells (List.map AC.lit ti90.zero)),(0,.cells [.ptr (.o 0) 0])]) (fun v H1=>∃c,v=.one c/\ER H1 nm (allE .nil f.params (.cap (n:Int) sl::l)) c) y σ
  |[x,y,a]=>GrS (mC tc0 ec0 vc0 kc m.out m.steps fu ⟨.sl 2 (fns.map cFun),kt⟩) m.out.length ou0 H (mC tc0 ec0 vc0 kc m.out m.steps fu ⟨.sl 2 (fns.map cFun),kt⟩) (2,[(1,.cells (cFun f)),(1,.cells (List.map AC.lit ti90.zero)),(0,.cells [.ptr (.o 0) 0])]) (fun v H1=>∃c,v=.one c/\ER H1 nm (allE .nil f.params (.cap (n:Int) sl::l)) c) y σ/\a=.one (.ptr (.o 0) 0)
  |[x,y,a,b]=>GrS (mC tc0 ec0 vc0 kc m.out m.steps fu ⟨.sl 2 (fns.map cFun),kt⟩) m.out.length ou0 H (mC tc0 ec0 vc0 kc m.out m.steps fu ⟨.sl 2 (fns.map cFun),kt⟩) (2,[(1,.cells (cFun f)),(1,.cells (List.map AC.lit ti90.zero)),(0,.cells [.ptr (.o 0) 0])]) (fun v H1=>∃c,v=.one c/\ER H1 nm (allE .nil f.params (.cap (n:Int) sl::l)) c) y σ/\a=.one (.ptr (.o 0) 0)/\b=.one (.ptr (.o 0) 0)
  |[x,y,a,b,s]=>GrS (mC tc0 ec0 vc0 kc m.out m.steps fu ⟨.sl 2 (fns.map cFun),kt⟩) m.out.length ou0 H (mC (.box (cTr f.body)) ec0 vc0 kc m.out m.steps fu ⟨.sl 2 (fns.map cFun),kt⟩) (2,[(1,.cells (cFun f)),(1,.cells (List.map AC.lit ti90.zero)),(0,.cells [.ptr (.o 0) 0])]) (fun v H1=>∃c,v=.one c/\ER H1 nm (allE .nil f.params (.cap (n:Int) sl::l)) c) y σ/\a=.one (.ptr (.o 0) 0)/\b=.one (.ptr (.o 0) 0)/\s=.bot
  |_=>False) follows (by kernel_rfl) rfl rfl (by decide) (by kernel_rfl) (by kernel_rfl) rfl rfl ?_ ?_ (by decide) ?_ ?_
 ·intro vs σ h
  match vs with
  |[]=>subst h;rfl
  |[_]=>obtain⟨_,rfl⟩:=h;rfl
  |[_,_]=>obtain⟨_,_,rfl,_⟩:=h;rfl
  |[_,_,_]=>obtain⟨⟨_,_,rfl,_⟩,_⟩:=h;rfl
  |[_,_,_,_]=>obtain⟨⟨_,_,rfl,_⟩,_⟩:=h;rfl
  |[_,_,_,_,_]=>obtain⟨⟨_,_,rfl,_⟩,_⟩:=h;rfl
  |_::_::_::_::_::_::_=>exact h.elim
 ·intro vs σ h
  exact⟨⟨_,rfl,HStep.plain rfl (AStep.mkIfc Q7q rfl rfl)⟩,⟨_,rfl,HStep.auto tabOk rfl⟩,⟨_,rfl,HStep.auto tabOk rfl⟩,trivial⟩
 ·intro vs σ h i o hi ho
  match vs with
  |[]=>
   subst h;cases hi;cases ho
   refine⟨rfl,.inl (.inr ⟨rfl,Q0m.call hΓ rfl rfl rfl rfl ⟨by simp[hvi],trivial⟩ hw.ok (hcat _) fun r ou' hq hr ho=>?_⟩)⟩
   obtain⟨rfl,rfl⟩:=hq
   exact⟨rfl,rfl⟩
  |[x]=>
   obtain⟨rfl,rfl⟩:=h;cases hi;cases ho
   refine⟨rfl,.inl (.inr ⟨rfl,Q0m.call hΓ rfl rfl rfl rfl ⟨trivial,by simp,Qih _,trivial⟩ hw.ok (Qh7 hΓ (.nil (H:=H) (nm:=nm)) (by simpa[cV]using hvl) (by simpa using hpl) h20 _ hw.inO) fun r ou' hq hr ho=>?_⟩)⟩
   obtain⟨H1,c1,rfl,hg,hec⟩:=hq
   exact GrS.of (L:=(2,[(1,.cells (cFun f)),(1,.cells (List.map AC.lit ti90.zero)),(0,.cells [.ptr (.o 0) 0])])) hg ⟨c1,rfl,hec⟩
  |[x,y]=>obtain⟨ou1,H1,rfl,h1,h2⟩:=h;cases hi;cases ho;exact⟨rfl,.inl (.inl ⟨_,_,AStep.ofOp tabOk rfl,⟨ou1,H1,rfl,h1,h2⟩,rfl⟩)⟩
  |[x,y,a]=>obtain⟨⟨ou1,H1,rfl,h1,h2⟩,rfl⟩:=h;cases hi;cases ho;exact⟨rfl,.inl (.inl ⟨_,_,AStep.ofOp tabOk rfl,⟨ou1,H1,rfl,h1,h2⟩,rfl,rfl⟩)⟩
  |[x,y,a,b]=>obtain⟨⟨ou1,H1,rfl,h1,h2⟩,rfl,rfl⟩:=h;cases hi;cases ho;exact⟨rfl,.inl (.inl ⟨_,_,AStep.ofStore tabOk rfl,⟨ou1,H1,setXs _ _ _ _ _ _,h1,h2⟩,rfl,rfl,rfl⟩)⟩
  |_::_::_::_::_::_=>cases hi
 ·intro vs σ hlen h
  match vs,hlen with
  |[x,y,a,b,s],_=>
   obtain⟨⟨ou1,H1,rfl,h1,c1,rfl,h3⟩,rfl,rfl,rfl⟩:=h
   refine zA ?_
   have hw2:=hw.gro h1 (by simp[ouX]) (by simp[ouX])
   have hM:MR fu ⟨.sl 2 (fns.map cFun),kt⟩ _ H1 nm { m with c:=.ev f.body (allE .nil f.params (.cap (n:Int) sl::l)),k:=k }:=MR.ofEv (ou':=(St.set ⟨0,[],ouX (mC (.box (cTr f.body)) ec0 vc0 kc m.out m.steps fu ⟨.sl 2 (fns.map cFun),kt⟩) m.out.length ou1⟩ (.o 0) (.cells (mC (.box (cTr f.body)) c1 vc0 kc m.out m.steps fu ⟨.sl 2 (fns.map cFun),kt⟩))).ou) hw2 h3 (hk.mo (h1.mo nm)) h0.ids.2.2.1 hfc rfl rfl (fun _=>rfl)
   refine AFn.fin' rfl (WkF.refl _) (by simp) hM.ok ⟨rfl,H1,nm,_,?_,h1.mo nm,hM⟩
   rfl
end
theorem Q66{H:Type}:∀l:List (DataW H),Rows.uptoBulkAll l=Q2q Rows.uptoBulk l
 |[]=>rfl
 |d::l=>by simp only[Rows.uptoBulkAll,Q2q,List.map_cons,List.sum_cons]at *;rw[Q66 l];rfl
theorem Qdy{H:Type}(l:List (DataW H)):Q2q Rows.uptoBulk l+1<=Rows.uptoBulk (.agg l):=by
 simp only[Rows.uptoBulk,Q66];omega
theorem Qeu{H:Type}(l r:List (DataW H)):Q2q Rows.uptoBulk l+1<=Rows.uptoBulk (.slice l r):=by
 simp only[Rows.uptoBulk,Q66];omega
theorem Qiz{H:Type}:1<=Rows.uptoBulk (DataW.nil:DataW H):=by simp[Rows.uptoBulk]
section
variable {H:Type}{enc:TypeId×Value->H}{w:World}
abbrev I64:={i:Int // IntKind.i64.min<=i/\i<=IntKind.i64.max}
theorem Q55(n:Nat):Opens enc Tryz.prog w Rows.uptoBulk 3 n (fun i:I64=>[int i.1]) (fun _=>1):=by
 intro cs x h
 obtain⟨i,rfl,rfl,hw⟩:=DataW.trod_int Tryz.underlying3 h
 refine⟨⟨i,?_⟩,⟨_,_,rfl,⟨rfl,rfl⟩,rfl⟩,by simp[Rows.uptoBulk]⟩
 simpa[Lit.wf]using hw
theorem Q4o{t e:TypeId}{s:Nat}(ht:Tryz.prog.underlying t=some (.slice e))(hs:Tryz.prog.cellsOf e=s)(h0:0 < s){α:Type}{c:α->List AC}{wt:α->Nat}(n:Nat)(he:∀m,m < n->Opens enc Tryz.prog w Rows.uptoBulk e m c wt):
  Opens enc Tryz.prog w Rows.uptoBulk t n (fun l:List α=>[.sl s (l.map c)]) (fun l=>wtAll wt l+1):=by
 cases n with
 |zero=>exact Opens.zero
 |succ n=>exact Opens.slice Qeu Qiz ht hs h0 (he n (by omega))
theorem wt_one{α:Type}(l:List α):wtAll (fun _=>1) l=l.length:=by
 unfold wtAll
 induction l with
 |nil=>rfl
 |cons a l ih=>simp only[List.map_cons,List.sum_cons,List.length_cons,ih];omega
theorem Q5o(n:Nat):Opens enc Tryz.prog w Rows.uptoBulk 25 n (fun l:List Int=>[.sl 1 (l.map cI)]) (fun l=>l.length+1):=by
 refine Opens.as (Q4o Tryz.underlying25 (s:=1) (by kernel_rfl) (by omega) n (fun m _=>Q55 m)) fun l=>⟨l.map (·.1),?_,?_⟩
 ·simp only[List.map_map];rfl
 ·rw[wt_one];simp
def bAlt (a:Alt):Nat:=a.binds.length+3
def bAlts (l:List Alt):Nat:=(l.map bAlt).sum
def bEx (x:Ex):Nat:=x.binds.length+x.kids.length+bAlts x.alts+6
def bExs (l:List Ex):Nat:=(l.map bEx).sum
theorem Qi2(n:Nat):Opens enc Tryz.prog w Rows.uptoBulk 106 n cAlt bAlt:=by
 cases n with
 |zero=>exact Opens.zero
 |succ n=>
  refine Opens.as (Opens.struct Qdy Tryz.underlying106 (.cons rfl (by kernel_rfl) (Q55 n) (fun _=>rfl) (.cons rfl (by kernel_rfl) (Q5o n) (fun _=>rfl) (.nil _))) (fun _=>(show (2:Nat)=_ by kernel_rfl))) ?_
  rintro⟨i,l,_⟩
  exact⟨⟨i.1,l⟩,rfl,by show l.length+3<=1+(l.length+1+0)+1;omega⟩
theorem opensEx(n:Nat):Opens enc Tryz.prog w Rows.uptoBulk 53 n cEx bEx:=by
 cases n with
 |zero=>exact Opens.zero
 |succ n=>
  have ha:=Q4o (enc:=enc) (w:=w) (t:=51) Tryz.underlying51 (s:=2) (by kernel_rfl) (by omega) n (fun m _=>Qi2 m)
  refine Opens.as (Opens.struct Qdy Tryz.underlying53 (.cons rfl (by kernel_rfl) (Q55 n) (fun _=>rfl) (.cons rfl (by kernel_rfl) (Q55 n) (fun _=>rfl) (.cons rfl (by kernel_rfl) (Q5o n) (fun _=>rfl) (.cons rfl (by kernel_rfl) (Q5o n) (fun _=>rfl) (.cons rfl (by kernel_rfl) ha (fun _=>rfl) (.nil _)))))) (fun _=>(show (5:Nat)=_ by kernel_rfl))) ?_
  rintro⟨i,j,b,k,l,_⟩
  refine⟨⟨i.1,j.1,b,k,l⟩,rfl,?_⟩
  show b.length+k.length+bAlts l+6<=1+(1+(b.length+1+(k.length+1+(wtAll bAlt l+1+0))))+1
  have:wtAll bAlt l=bAlts l:=rfl
  omega
theorem Qi1(n:Nat):Opens enc Tryz.prog w Rows.uptoBulk 39 n (fun l:List Ex=>[.sl 5 (l.map cEx)]) (fun l=>bExs l+1):=
 Q4o Tryz.underlying39 (s:=5) (by kernel_rfl) (by omega) n (fun m _=>opensEx m)
theorem Qhu{t e:TypeId}{base:Nat}{r:Reach}{W:World}{v:Value}{C:Ctx}{c:AC}(ht:Tryz.prog.underlying t=some (.slice e))(h:Value.okWide Tryz.prog W r base t v)(hr:RV W C [c] v.cells.toList):RF W C (.one c) v:=by
 obtain⟨a,len,cap,rfl⟩:=WideShapes.okWide_slice ht h
 obtain⟨u,us,he,h1,h2⟩:=hr
 simp[Value.cells]at he
 obtain⟨rfl,rfl⟩:=he
 exact h1
end
theorem Qbm{α:Type}{f:α->Nat}:∀{l:List α}{a:α},a∈l->f a<=(l.map f).sum
 |b::l,a,h=>by
  simp only[List.map_cons,List.sum_cons]
  rcases List.mem_cons.1 h with rfl|h
  ·omega
  ·have:=Qbm (f:=f) h;omega
theorem Qbn{α:Type}{f:α->Nat}(hf:∀a,1<=f a):∀l:List α,l.length<=(l.map f).sum
 |[]=>by simp
 |b::l=>by
  have h1:=hf b
  have h2:=Qbn hf l
  simp only[List.map_cons,List.sum_cons,List.length_cons];omega
theorem Q8q:∀l:List Alt,(l.flatMap (·.binds)).length<=bAlts l
 |[]=>by simp[bAlts]
 |a::l=>by
  have:=Q8q l
  simp only[bAlts,bAlt,List.flatMap_cons,List.length_append,List.map_cons,List.sum_cons]at *
  omega
theorem okB_of{e:List Ex}(h:bExs e<=1048576):okB e:=by
 have h1:=Qbn (f:=bEx) (fun x=>by simp only[bEx];omega) e
 have hx:∀x∈e,bEx x<=1048576:=fun x hx=>by
  have h2:bEx x<=bExs e:=Qbm hx
  omega
 have h1':e.length<=bExs e:=h1
 refine⟨⟨by omega,fun x hx1=>?_⟩,fun x hx1=>?_⟩
 ·have h2:=hx x hx1
  simp only[bEx]at h2
  have h3:=Qbn (f:=bAlt) (fun a=>by simp only[bAlt];omega) x.alts
  have h3':x.alts.length<=bAlts x.alts:=h3
  refine⟨by omega,by omega,by omega,fun a ha=>?_⟩
  have h4:bAlt a<=bAlts x.alts:=Qbm ha
  simp only[bAlt]at h4
  omega
 ·have h2:=hx x hx1
  simp only[bEx]at h2
  have h3:=Q8q x.alts
  omega
theorem Qcg{W:World}(h:laidMetH Tryz.prog [("provenance/core.arity",Rows.laid_provenance_core_arity)] W):∀g cs,(g,cs)∈Γc->RG W (ctx0 W) cs g:=by
 have ht:Lib.TabIs Tryz.prog W "provenance/core.arity" .i64 [2,2,2,2,2,2,2,1,2,1,2,3]:=
  Lib.tabIs_of_head (rest:=[]) (g:=0) (t:=139) (n:=12) (by kernel_rfl) (by kernel_rfl) (by kernel_rfl) Tryz.underlying3 (by kernel_rfl) (by kernel_rfl) h
 have hg:Tryz.prog.globalNamed "provenance/core.arity" = some 0:=by kernel_rfl
 intro g cs hm
 simp[Γc]at hm
 obtain⟨rfl,rfl⟩:=hm
 exact RG.ofVar hg ht rfl
structure FnD where
 name:Int
 params:List Int
 body:List Ex
def encF (f:FnD):List AC:=[int f.name,.sl 1 (f.params.map cI),.sl 5 (f.body.map cEx)]
@[simp] theorem idsL_encF (p:Abs.Id->Prop) (f:FnD):idsL p (encF f):=by simp[encF]
theorem Qdk(p:Abs.Id->Prop)(l:List FnD):idsS p (l.map encF):=Q1q (f:=encF) (fun f=>by simp[encF]) l
@[simp] theorem ids_encF_l (k:Nat) (l:List FnD):idsS (inL k) (l.map encF):=Qdk _ l
@[simp] theorem Q4c (l:List FnD):idsS isO (l.map encF):=Qdk _ l
def Qce (fs:List FnD)(x:Ex):Prop:=x.op=14∨x.op=15->∃(i:Nat)(g:FnD),x.n=(i:Int)/\fs[i]?=some g/\(x.op=14->x.kids.length=g.params.length)/\(x.op=15->g.params.length≠0)
structure FnOkD (fs:List FnD)(f:FnD):Prop where
 n:-1<=f.name/\f.name < 1048576
 pl:f.params.length<=6
 pr:∀x∈f.params,0<=x/\x < 1048576
 okb:okB f.body
 b:body f.body f.params true=0
 c:∀x∈f.body,Qce fs x
theorem Qep(fs:List FnD)(hfl:fs.length<=1048576)(f:FnD)(h:FnOkD fs f)(main:Int):APure Tryz.prog Γc 33 [.agg [.sl 3 (fs.map encF),int main],.agg (encF f)] (.one (int 0)):=by
 have hB:=Qcm f.body h.okb f.params (by have:=h.pl;omega) true
 rw[h.b]at hB
 have hbl:=h.okb.eo.l
 have hpl:=h.pl
 have hnm:=h.n
 intro ou
 refine AFn.walk 94 tabOk Tryz.func33 rfl (by kernel_rfl) rfl rfl fun hou=>?_
 refine zM ?_
 refine AOps.splitS rfl rfl rfl rfl (fun hb=>absurd hb (by simp;omega)) (fun _=>?_)
 refine zM ?_
 refine ACode.cond rfl (fun hb=>absurd hb (by simp;omega)) (fun _=>?_)
 refine zM ?_
 refine ACode.cond rfl (fun hb=>absurd hb (by simp;omega)) (fun _=>?_)
 refine zM ?_
 refine ACode.freeze1 (.l 0) 2 rfl rfl ?_
 refine ACode.freeze1 (.l 1) 3 rfl rfl ?_
 refine ACode.loopR hΓc (α:=Nat) (fun j=>[(26,.one (int j)),(25,.one (int (f.params.map cI).length)),(24,.one (.sl 1 (f.params.map cI))),(3,.one (.box (encF f))),(2,.one (.box [.sl 3 (fs.map encF),int main]))]) (fun j=>⟨0,[],ou⟩) (fun m j=>j<=f.params.length/\m=f.params.length - j) (a0:=0) (ρ:=_root_.id) ⟨by omega,rfl⟩ (LessR.of rfl zFS (by simp) zLO rfl rfl hou) fun m j hj=>?_
 obtain⟨hjl,rfl⟩:=hj
 refine zA ?_
 refine ACode.cond rfl (fun hb2=>?_) (fun hb2=>?_)
 ·have hlt:j < f.params.length:=by simpa using hb2
  obtain⟨x,hx⟩:=Q01 hlt
  have hxr:=h.pr x (List.mem_of_getElem? hx)
  refine zA ?_
  refine zS (zIA rfl rfl rfl (by omega) (Q04 hx)) ?_
  refine zA ?_
  refine AOps.splitS rfl rfl rfl rfl (fun hb=>absurd hb (by simp;omega)) (fun _=>?_)
  refine zM ?_
  refine ACode.cond rfl (fun hb=>absurd hb (by simp;omega)) (fun _=>?_)
  refine zM ?_
  exact cInv ⟨f.params.length - (j+1),j+1,_root_.id,by omega,⟨by omega,rfl⟩,LessR.of rfl zFS (by simp) zLO rfl rfl hou⟩
 refine zA ?_
 refine zca hΓc hB hou ?_
 refine zM ?_
 refine ACode.loopR hΓc (α:=Nat) (fun j=>[(48,.one (int j)),(47,.one (int (f.body.map cEx).length)),(46,.one (.sl 5 (f.body.map cEx))),(3,.one (.box (encF f))),(2,.one (.box [.sl 3 (fs.map encF),int main]))]) (fun j=>⟨0,[],ou⟩) (fun m j=>j<=f.body.length/\m=f.body.length - j) (a0:=0) (ρ:=_root_.id) ⟨by omega,rfl⟩ (LessR.of rfl zFS (by simp) zLO rfl rfl hou) fun m j hj=>?_
 obtain⟨hjl,rfl⟩:=hj
 clear hb2
 refine zA ?_
 refine ACode.cond rfl (fun hb2=>?_) (fun hb2=>?_)
 ·have hlt:j < f.body.length:=by simpa using hb2
  obtain⟨x,hx⟩:=Q01 hlt
  have hc:=h.c x (List.mem_of_getElem? hx)
  have hxm:=List.mem_of_getElem? hx
  obtain⟨o,n,b,k,al⟩:=x
  simp only[Qce]at hc
  by_cases h14:o=14
  ·obtain⟨i,g,hn,hg,hk,-⟩:=hc (.inl h14)
   have hk:=hk h14
   subst h14;subst hn
   have hgl:i < fs.length:=(List.getElem?_eq_some_iff.1 hg).1
   refine zA ?_
   refine zS (zIA rfl rfl rfl (by omega) (Q04 hx)) ?_
   refine zA ?_
   refine ACode.cond rfl (fun hb=>absurd hb (by simp;omega)) (fun _=>?_)
   refine zA ?_
   refine zS (zIA rfl rfl rfl (Int.natCast_nonneg i) (Q04 hg)) ?_
   refine zA ?_
   refine AOps.splitS rfl rfl rfl rfl (fun hb=>absurd hb (by simp[hk])) (fun _=>?_)
   refine zM ?_
   exact cInv ⟨f.body.length - (j+1),j+1,_root_.id,by omega,⟨by omega,rfl⟩,LessR.of rfl zFS (by simp) zLO rfl rfl hou⟩
  by_cases h15:o=15
  ·obtain⟨i,g,hn,hg,-,hk⟩:=hc (.inr h15)
   have hk:=hk h15
   subst h15;subst hn
   have hgl:i < fs.length:=(List.getElem?_eq_some_iff.1 hg).1
   refine zA ?_
   refine zS (zIA rfl rfl rfl (by omega) (Q04 hx)) ?_
   refine zA ?_
   refine ACode.cond rfl (fun hb=>absurd hb (by simp;omega)) (fun _=>?_)
   refine zA ?_
   refine zS (zIA rfl rfl rfl (Int.natCast_nonneg i) (Q04 hg)) ?_
   refine zA ?_
   refine ACode.cond rfl (fun hb=>absurd hb (by simpa using hk)) (fun _=>?_)
   refine zM ?_
   exact cInv ⟨f.body.length - (j+1),j+1,_root_.id,by omega,⟨by omega,rfl⟩,LessR.of rfl zFS (by simp) zLO rfl rfl hou⟩
  refine zA ?_
  refine zS (zIA rfl rfl rfl (by omega) (Q04 hx)) ?_
  refine zA ?_
  refine AOps.splitS rfl rfl rfl rfl (fun _=>?_) (fun hb=>absurd hb (by simpa using h14))
  refine zM ?_
  refine ACode.cond rfl (fun _=>?_) (fun hb=>absurd hb (by simpa using h15))
  refine zM ?_
  exact cInv ⟨f.body.length - (j+1),j+1,_root_.id,by omega,⟨by omega,rfl⟩,LessR.of rfl zFS (by simp) zLO rfl rfl hou⟩
 refine zA ?_
 exact APure.fin rfl (WkF.ofEq rfl) (by simp) hou rfl
structure PrgOk (fs:List FnD)(main:Nat):Prop where
 l:fs.length<=256
 b:∀f∈fs,FnOkD fs f
 m:∃f,fs[main]?=some f/\f.params=[]
theorem Qaz(fs:List FnD)(main:Nat)(h:PrgOk fs main):APure Tryz.prog Γc 19 [.agg [.sl 3 (fs.map encF),int (main:Int)]] (.one (int 0)):=by
 have hfl:=h.l
 obtain⟨f0,h0,h1⟩:=h.m
 have hml:main < fs.length:=(List.getElem?_eq_some_iff.1 h0).1
 intro ou
 refine AFn.walk 52 tabOk Tryz.func19 rfl (by kernel_rfl) rfl rfl fun hou=>?_
 refine zM ?_
 refine ACode.cond rfl (fun hb=>absurd hb (by simp;intro h;subst h;simp at hml)) (fun _=>?_)
 refine zM ?_
 refine ACode.cond rfl (fun hb=>absurd hb (by simp;omega)) (fun _=>?_)
 refine zM ?_
 refine ACode.cond rfl (fun hb=>absurd hb (by simp;omega)) (fun _=>?_)
 refine zA ?_
 refine zS (zIA rfl rfl rfl (Int.natCast_nonneg main) (Q04 h0)) ?_
 refine zM ?_
 refine ACode.cond rfl (fun hb=>absurd hb (by simp[h1])) (fun _=>?_)
 refine zA ?_
 refine ACode.freeze1 (.l 0) 1 rfl rfl ?_
 refine ACode.loopR hΓc (α:=Nat) (fun j=>[(41,.one (int j)),(40,.one (int (fs.map encF).length)),(39,.one (.sl 3 (fs.map encF))),(1,.one (.box [.sl 3 (fs.map encF),int (main:Int)]))]) (fun j=>⟨0,[],ou⟩) (fun m j=>j<=fs.length/\m=fs.length - j) (a0:=0) (ρ:=_root_.id) ⟨by omega,rfl⟩ (LessR.of rfl zFS (by simp) zLO rfl rfl hou) fun m j hj=>?_
 obtain⟨hjl,rfl⟩:=hj
 refine zA ?_
 refine ACode.cond rfl (fun hb2=>?_) (fun hb2=>?_)
 ·have hlt:j < fs.length:=by simpa using hb2
  obtain⟨x,hx⟩:=Q01 hlt
  refine zA ?_
  refine zS (zIA rfl rfl rfl (by omega) (Q04 hx)) ?_
  refine zA ?_
  refine zca hΓc (Qep fs (by omega) x (h.b x (List.mem_of_getElem? hx)) main) hou ?_
  refine zM ?_
  exact cInv ⟨fs.length - (j+1),j+1,_root_.id,by omega,⟨by omega,rfl⟩,LessR.of rfl zFS (by simp) zLO rfl rfl hou⟩
 refine zA ?_
 exact APure.fin rfl (WkF.ofEq rfl) (by simp) hou rfl
@[simp] theorem Qfm (ρ:Nat->Nat) (l:List Fun):renS ρ (l.map cFun)=l.map cFun:=Q1d ρ _ (Q8i l)
def funD (f:FnD):Fun:=⟨f.params,grow f.body⟩
def funsD (fs:List FnD):List Fun:=fs.map funD
theorem Qgo(fs:List FnD):(funsD fs).length=fs.length:=by simp[funsD]
theorem Qeo{fs:List FnD}{j:Nat}{x:FnD}(h:fs[j]?=some x):funsD (fs.take (j+1))=funsD (fs.take j)++[funD x]:=by rw[Q1o h];simp[funsD]
theorem Qix{fs:List FnD}{i:Nat}{f:FnD}(h:fs[i]?=some f):((funsD fs).map cFun)[i]?=some [.sl 1 (f.params.map cI),.box (cTr (grow f.body))]:=by
 rw[List.getElem?_map,funsD,List.getElem?_map,h];rfl
theorem Qj6(t:Tr)(fu:Int)(ac:AC)(ha:ac.ids isO):MR fu ⟨ac,1⟩ (ouOf [.cells (mC (.box (cTr t)) nilPE (.lit .nilIface) nilPE [] 0 fu ⟨ac,1⟩),.tok 3 1 0]) (fun _=>none) [] ⟨.ev t .nil,[],[],0,[]⟩:=by
 refine⟨⟨1,_,_,_,_,.ev t .nil nilPE (.lit .nilIface) .nil,.nil,⟨⟨by simp,trivial,trivial,trivial⟩,rfl,⟨fun k cs hk=>(by cases hk),fun k o hk=>?_,rfl,fun a k n h=>(by simp at h),fun a k n h=>rfl,fun a b k n n' h=>(by simp at h),⟨rfl,fun a k n h=>(by simp at h)⟩,fun cs hc es i hi=>?_,fun k o hk=>?_⟩⟩⟩⟩
 ·match k,hk with
  |0,hk=>cases hk;exact⟨by simp,trivial,trivial,trivial,⟨trivial,trivial⟩,trivial,trivial,ha,trivial⟩
  |1,hk=>cases hk;trivial
  |k+2,hk=>simp[ouOf]at hk
 ·cases hc
  cases hi
  exact⟨1,rfl,Nat.le_refl _,rfl,rfl,fun a k n h=>by simp at h⟩
 ·match k,hk with
  |0,hk=>cases hk;trivial
  |1,hk=>cases hk;trivial
  |k+2,hk=>simp[ouOf]at hk
instance:Inhabited FnD:=⟨⟨0,[],[]⟩⟩
structure Sc where
 self:Int
 many:Nat
 pl:Int->Option (Int×Int)
structure Bs where
 fns:List FnD
 next:Int
 bad:Bool
def refT (id:Int):Tr:=.mk 0 id [] [] []
def slotT (self i:Int):Tr:=.mk 16 i [] [refT self] []
def Q2r (self:Int):Nat->List Tr
 |0=>[]
 |k+1=>Q2r self k++[slotT self k]
def varC (s:Sc)(id:Int):Tr:=match s.pl id with
 |none=>refT id
 |some (sl,fn)=>if 0<=fn then .mk 15 fn [] (Q2r s.self s.many) []else slotT s.self sl
def closC (fn:Int)(needs:List Int)(s:Sc):Tr:=.mk 15 fn [] (needs.map (varC s)) []
def addN1 (group out:List Int)(n:Int):List Int:=if (!out.contains n&&!group.contains n)=true then out++[n]else out
def outF (group out:List Int)(f:Tr):List Int:=(Q22 f).foldl (addN1 group) out
def outside (fns:List Tr)(group:List Int):List Int:=(fns.foldl (outF group) []).mergeSort fun x y=>decide (x<=y)
def plN (needs:List Int):Nat->Int->Option (Int×Int)
 |0=>fun _=>none
 |k+1=>setF (plN needs k) (needs.getD k 0) ((k:Int),-1)
def plG (f:Int->Option (Int×Int))(group:List Int)(base:Nat):Nat->Int->Option (Int×Int)
 |0=>f
 |k+1=>setF (plG f group base k) (group.getD k 0) (-1,((base+k:Nat):Int))
def Q0p (cv:Tr->Bs->Tr×Bs)(ks:List Tr):Nat->Bs->List Tr×Bs
 |0,b=>([],b)
 |i+1,b=>((Q0p cv ks i b).1++[(cv (ks.getD i default) (Q0p cv ks i b).2).1],(cv (ks.getD i default) (Q0p cv ks i b).2).2)
def scF (needs group:List Int)(base:Nat)(self:Int):Sc:=⟨self,needs.length,plG (plN needs needs.length) group base group.length⟩
def putD (fns:List FnD)(j:Nat)(params:List Int)(body:List Ex):List FnD:=fns.set j ⟨(fns.getD j default).name,params,body⟩
def Q8n (cv:Sc->Tr->Bs->Tr×Bs)(needs group:List Int)(base i:Nat)(f:Tr)(b:Bs):Bs:=
 let r:=cv (scF needs group base b.next) (f.kids.getD 0 default) { b with next:=b.next+1 }
 { r.2 with fns:=putD r.2.fns (base+i) (b.next::f.binds) (listT [] r.1),bad:=r.2.bad||decide (6<=f.binds.length) }
def Q29 (cv:Sc->Tr->Bs->Tr×Bs)(needs group:List Int)(base:Nat)(fns:List Tr):Nat->Bs->Bs
 |0,b=>b
 |i+1,b=>Q8n cv needs group base i (fns.getD i default) (Q29 cv needs group base fns i b)
def newF (names:List Int):Nat->List FnD
 |0=>[]
 |k+1=>newF names k++[⟨names.getD k 0,[],[]⟩]
def fnsM (cv:Sc->Tr->Bs->Tr×Bs)(fns:List Tr)(group names:List Int)(b:Bs):Bs:=
 let needs:=outside fns group
 let b2:=Q29 cv needs group b.fns.length fns fns.length { b with fns:=b.fns++newF names fns.length }
 { b2 with bad:=b2.bad||decide (16 < needs.length)||decide (256 < b2.fns.length) }
def letsC (base:Nat)(needs:List Int)(s:Sc)(binds:List Int):Nat->Tr->Tr
 |0,body=>body
 |i+1,body=>letsC base needs s binds i (.mk 4 0 [binds.getD i 0] [closC ((base+i:Nat):Int) needs s,body] [])
def cv:Nat->Sc->Tr->Bs->Tr×Bs
 |0,_,_,b=>(default,b)
 |n+1,s,.mk o x bs ks al,b=>
  if o=0 then (varC s x,b)
  else if o=2 then (closC (b.fns.length:Int) (outside [.mk o x bs ks al] []) s,fnsM (cv n) [.mk o x bs ks al] [] [-1] b)
  else if o=5 then
   let q:=cv n s (ks.getD bs.length default) (fnsM (cv n) (ks.take bs.length) bs bs b)
   (letsC b.fns.length (outside (ks.take bs.length) bs) s bs bs.length q.1,q.2)
  else if o=4/\(ks.getD 0 default).op=2 then
   let q:=cv n s (ks.getD 1 default) (fnsM (cv n) (ks.take 1) [] bs b)
   (.mk 4 0 bs [closC (b.fns.length:Int) (outside (ks.take 1) []) s,q.1] [],q.2)
  else (.mk o x bs (Q0p (cv n s) ks ks.length b).1 al,(Q0p (cv n s) ks ks.length b).2)
structure FragC (l:Lab):Prop where
 sh:shpQ l
 rc:l.op=5->∀i,i < l.binds.length->l.ops[i]?=some 2
mutual
def lamN:Tr->Nat
 |.mk o _ _ k _=>(if o=2 then 1 else 0)+lamNs k
def lamNs:List Tr->Nat
 |[]=>0
 |t::l=>lamN t+lamNs l
end
mutual
theorem Qde:∀t:Tr,lamN t<=cntN t
 |.mk o x b k a=>by
  have:=Q32 k
  simp only[lamN,cntN]
  split <;> omega
theorem Q32:∀l:List Tr,lamNs l<=cntNs l
 |[]=>Nat.le_refl _
 |t::l=>by
  have h1:=Qde t
  have h2:=Q32 l
  simp only[lamNs,cntNs];omega
end
theorem Q5s(l:List Tr)(t:Tr):lamNs (l++[t])=lamNs l+lamN t:=by
 induction l with
 |nil=>simp[lamNs]
 |cons a l ih=>simp only[List.cons_append,lamNs,ih];omega
theorem Q33(l:List Tr)(t:Tr):cntNs (l++[t])=cntNs l+cntN t:=by
 induction l with
 |nil=>simp[cntNs]
 |cons a l ih=>simp only[List.cons_append,cntNs,ih];omega
theorem Q2b(l r:List Tr):cntNs (l++r)=cntNs l+cntNs r:=by
 induction l with
 |nil=>simp[cntNs]
 |cons a l ih=>simp only[List.cons_append,cntNs,ih];omega
theorem Q24{l:List Tr}{i:Nat}(h:i < l.length):l.take (i+1)=l.take i++[l.getD i default]:=by
 rw[List.take_add_one,List.getD_eq_getElem?_getD,List.getElem?_eq_getElem h];rfl
theorem Qiu{l:List Tr}{i:Nat}(h:i < l.length):cntN (l.getD i default)<=cntNs l:=by
 have h1:=Q24 h
 have h2:=List.take_append_drop (i+1) l
 have h3:cntNs l=cntNs (l.take i)+cntN (l.getD i default)+cntNs (l.drop (i+1)):=by
  conv=>lhs;rw[←h2,Q2b,h1,Q33]
 omega
theorem Q3g(t:Tr):1<=cntN t:=by cases t;simp[cntN]
theorem Q3s(l:List Tr):l.length<=cntNs l:=by
 induction l with
 |nil=>simp
 |cons a l ih=>have:=Q3g a;simp only[List.length_cons,cntNs];omega
theorem Q48(names:List Int):∀k,(newF names k).length=k
 |0=>rfl
 |k+1=>by simp[newF,Q48 names k]
theorem Q54(fns:List FnD)(j:Nat)(ps:List Int)(e:List Ex):(putD fns j ps e).length=fns.length:=by simp[putD]
theorem Q8x{bs:List Int}:∀{ks:List Tr},(∀i,i < bs.length->(ks.map Tr.op)[i]?=some 2)->∀f∈ks.take bs.length,f.op=2:=fun {ks} h f hf=>by
 obtain⟨i,hi,rfl⟩:=List.mem_iff_getElem.1 hf
 have hi2:i < bs.length:=by simp at hi;omega
 have:=h i hi2
 simp only[List.getElem_take]
 rw[List.getElem?_map]at this
 have hik:i < ks.length:=by simp at hi;omega
 rw[List.getElem?_eq_getElem hik]at this
 simpa using this
structure IsLam (f:Tr):Prop where
 op:f.op=2
 k:∃t,f.kids=[t]
theorem Q2h{f:Tr}(h:allT FragC f)(ho:f.op=2):IsLam f:=by
 refine⟨ho,?_⟩
 have:=(Q0v h).sh
 obtain⟨o,n,b,k,a⟩:=f
 simp only[Tr.op]at ho
 subst ho
 have h2:ShN 2 n b (k.map Tr.op).length a:=this
 have:=h2.lam.1
 simp at this
 match k,this with
 |[t],_=>exact⟨t,rfl⟩
theorem Qan{f:Tr}(h:IsLam f):lamN f=1+lamN (f.kids.getD 0 default)/\cntN f=1+cntN (f.kids.getD 0 default):=by
 obtain⟨o,n,b,k,a⟩:=f
 obtain⟨ho,t,hk⟩:=h
 simp only[Tr.op,Tr.kids]at ho hk
 subst ho;subst hk
 constructor <;> simp[lamN,lamNs,cntN,cntNs] <;> omega
structure MovB (b b':Bs)(k:Nat):Prop where
 len:b'.fns.length=b.fns.length+k
 nx:b'.next=b.next+k
theorem MovB.trans{a b c:Bs}{i j:Nat}(h:MovB a b i)(h2:MovB b c j):MovB a c (i+j):=⟨by rw[h2.len,h.len];omega,by rw[h2.nx,h.nx];push_cast;omega⟩
theorem Q61{cv:Sc->Tr->Bs->Tr×Bs}{needs group:List Int}{base:Nat}{fns:List Tr}(hl:∀f∈fns,IsLam f)(hcv:∀f∈fns,∀s b,MovB b (cv s (f.kids.getD 0 default) b).2 (lamN (f.kids.getD 0 default)))(b:Bs):∀i,i<=fns.length->(Q29 cv needs group base fns i b).fns.length+i=b.fns.length+lamNs (fns.take i)/\(Q29 cv needs group base fns i b).next=b.next+lamNs (fns.take i)
 |0,_=>by simp[Q29,lamNs]
 |i+1,h=>by
  obtain⟨h1,h2⟩:=Q61 (needs:=needs) (group:=group) (base:=base) hl hcv b i (by omega)
  have hm:fns.getD i default∈fns:=by rw[List.getD_eq_getElem?_getD,List.getElem?_eq_getElem (by omega)];exact List.getElem_mem _
  have h3:=hcv _ hm (scF needs group base (Q29 cv needs group base fns i b).next) { (Q29 cv needs group base fns i b)with next:=(Q29 cv needs group base fns i b).next+1 }
  have h4:=(Qan (hl _ hm)).1
  rw[Q24 (by omega),Q5s]
  simp only[Q29,Q8n,Q54]
  obtain⟨h5,h6⟩:=h3
  simp only at h5 h6
  omega
theorem Q5a{cv:Sc->Tr->Bs->Tr×Bs}{fns:List Tr}{group names:List Int}(hl:∀f∈fns,IsLam f)(hcv:∀f∈fns,∀s b,MovB b (cv s (f.kids.getD 0 default) b).2 (lamN (f.kids.getD 0 default)))(b:Bs):MovB b (fnsM cv fns group names b) (lamNs fns):=by
 have h:=Q61 (needs:=outside fns group) (group:=group) (base:=b.fns.length) hl hcv { b with fns:=b.fns++newF names fns.length } fns.length (Nat.le_refl _)
 rw[List.take_length]at h
 simp only[List.length_append,Q48]at h
 constructor
 ·simp only[fnsM];omega
 ·simp only[fnsM];omega
theorem Q64{cv:Tr->Bs->Tr×Bs}{ks:List Tr}(hcv:∀t∈ks,∀b,MovB b (cv t b).2 (lamN t))(b:Bs):∀i,i<=ks.length->MovB b (Q0p cv ks i b).2 (lamNs (ks.take i))/\(Q0p cv ks i b).1.length=i
 |0,_=>⟨⟨by simp[Q0p,lamNs],by simp[Q0p,lamNs]⟩,rfl⟩
 |i+1,h=>by
  obtain⟨h1,h2⟩:=Q64 hcv b i (by omega)
  have hm:ks.getD i default∈ks:=by rw[List.getD_eq_getElem?_getD,List.getElem?_eq_getElem (by omega)];exact List.getElem_mem _
  rw[Q24 (by omega),Q5s]
  exact⟨h1.trans (hcv _ hm _),by simp[Q0p,h2]⟩
theorem Q37{l:List Tr}{i:Nat}(h:i < l.length):l.getD i default∈l:=by rw[List.getD_eq_getElem?_getD,List.getElem?_eq_getElem h];exact List.getElem_mem _
theorem Q4a{f:Tr}(h:IsLam f)(ha:allT FragC f):allT FragC (f.kids.getD 0 default):=by
 obtain⟨t,ht⟩:=h.k
 exact Q26 ha (by rw[ht];simp)
theorem Q4s{l:List Tr}{t:Tr}(h:t∈l):cntN t<=cntNs l:=by
 obtain⟨i,hi,rfl⟩:=List.mem_iff_getElem.1 h
 have:=Qiu hi
 rwa [List.getD_eq_getElem?_getD,List.getElem?_eq_getElem hi]at this
theorem Q5f:∀(n:Nat)(t:Tr),cntN t<=n->allT FragC t->∀(s:Sc)(b:Bs),MovB b (cv n s t b).2 (lamN t)
 |0,t,h,_=>by have:=Q3g t;omega
 |n+1,.mk o x bs ks al,h,ht=>fun s b=>by
  have F:=Q0v ht
  have hk:∀t∈ks,allT FragC t:=fun t hm=>Q4h ht hm
  have hn:∀t∈ks,cntN t<=n:=fun t hm=>by have:=Q4s hm;simp only[cntN]at h;omega
  have ih:∀t∈ks,∀s b,MovB b (cv n s t b).2 (lamN t):=fun t hm=>Q5f n t (hn t hm) (hk t hm)
  have ihf:∀f∈ks,IsLam f->∀s b,MovB b (cv n s (f.kids.getD 0 default) b).2 (lamN (f.kids.getD 0 default)):=fun f hm hl=>by
   have h1:=(Qan hl).2
   have h2:=hn f hm
   exact Q5f n _ (by omega) (Q4a hl (hk f hm))
  simp only[cv]
  by_cases e0:o=0
  ·rw[if_pos e0]
   subst e0
   have hs:ShN 0 x bs (ks.map Tr.op).length al:=F.sh
   have hz:=(hs.leaf (.inl rfl)).1
   have:ks=[]:=by simpa using hz
   subst this
   exact⟨by simp[lamN,lamNs],by simp[lamN,lamNs]⟩
  rw[if_neg e0]
  by_cases e2:o=2
  ·rw[if_pos e2]
   have hl:IsLam (.mk o x bs ks al):=Q2h ht e2
   have h1:=(Qan hl).2
   have:=Q5a (cv:=cv n) (fns:=[.mk o x bs ks al]) (group:=[]) (names:=[-1]) (fun f hf=>by simp at hf;subst hf;exact hl) (fun f hf=>by
    simp at hf;subst hf
    exact Q5f n _ (by omega) (Q4a hl ht)) b
   simpa[lamNs]using this
  rw[if_neg e2]
  have hlam:lamN (.mk o x bs ks al)=lamNs ks:=by simp[lamN,e2]
  rw[hlam]
  by_cases e5:o=5
  ·rw[if_pos e5]
   subst e5
   have hs:ShN 5 x bs (ks.map Tr.op).length al:=F.sh
   have hkl:ks.length=bs.length+1:=by have:=hs.recs.1;simpa using this
   have hfl:∀f∈ks.take bs.length,IsLam f:=fun f hf=>Q2h (hk f (List.mem_of_mem_take hf)) (Q8x (F.rc rfl) f hf)
   have h1:=Q5a (cv:=cv n) (fns:=ks.take bs.length) (group:=bs) (names:=bs) hfl (fun f hf=>ihf f (List.mem_of_mem_take hf) (hfl f hf)) b
   have h2:=ih _ (Q37 (l:=ks) (i:=bs.length) (by omega)) s (fnsM (cv n) (ks.take bs.length) bs bs b)
   have h3:=Q24 (l:=ks) (i:=bs.length) (by omega)
   rw[List.take_of_length_le (by omega)]at h3
   have h4:=h1.trans h2
   rw[←Q5s,←h3]at h4
   exact h4
  rw[if_neg e5]
  by_cases e4:o=4/\(ks.getD 0 default).op=2
  ·rw[if_pos e4]
   obtain⟨e4,e40⟩:=e4
   subst e4
   have hs:ShN 4 x bs (ks.map Tr.op).length al:=F.sh
   have hkl:ks.length=2:=by have:=hs.lett.1;simpa using this
   match ks,hkl with
   |[k0,k1],_=>
    have hl:IsLam k0:=Q2h (hk k0 (by simp)) (by simpa using e40)
    have h1:=Q5a (cv:=cv n) (fns:=[k0]) (group:=[]) (names:=bs) (fun f hf=>by simp at hf;subst hf;exact hl) (fun f hf=>by simp at hf;subst hf;exact ihf f (by simp) hl) b
    have h2:=ih k1 (by simp) s (fnsM (cv n) [k0] [] bs b)
    have h4:=h1.trans h2
    simpa[lamNs]using h4
  rw[if_neg e4]
  have:=(Q64 (cv:=cv n s) (ks:=ks) (fun t hm=>ih t hm s) b ks.length (Nat.le_refl _)).1
  rwa [List.take_length]at this
theorem Q7r{e:List Ex}(h:check e=0):allT FragC (grow e):=Qbe (Q15 h) fun x hx=>by
 have hs:=Qhr h x hx
 obtain⟨_,h2,_,_⟩:=Q4t h
 have h3:=h2 x hx
 refine⟨⟨⟨x.kids,by simp[labE],hs⟩⟩,fun h5 i hi=>?_⟩
 simp only[labE]at h5 hi ⊢
 have h4:Q0y e x=0:=by
  unfold Q0e at h3
  split at h3
  ·cases h3
  ·exact h3
 unfold Q0y at h4
 rw[if_neg (by rw[hs];simp)]at h4
 split at h4
 ·exact absurd h4 (by assumption)
 split at h4
 ·cases h4
 ·rename_i _ hb
  have hb:(List.range x.binds.length).any (Q11 e x)=false:=by simpa using hb
  have hb2:=List.any_eq_false.1 hb i (List.mem_range.2 hi)
  simp only[Q11,Bool.or_eq_true,not_or]at hb2
  have h6:=hb2.1
  have hkl:x.kids.length=x.binds.length+1:=by
   have:ShN 5 x.n x.binds x.kids.length x.alts:=⟨⟨x.kids,rfl,by rw[←h5];exact hs⟩⟩
   exact this.recs.1
  have hil:i < x.kids.length:=by omega
  have hkk:=Q9e (Q15 h).k hx _ (List.getElem_mem hil)
  have h7:x.kids.getD i 0=x.kids[i]:=by rw[List.getD_eq_getElem?_getD,List.getElem?_eq_getElem hil];rfl
  rw[h7]at h6
  rw[List.getElem?_map,List.getElem?_eq_getElem hil,Option.map_some,Qbx e _ (by omega)]
  simpa[h5]using h6
end Go.Proofs.YtdpdlkgecmgokaaGreatDoor
