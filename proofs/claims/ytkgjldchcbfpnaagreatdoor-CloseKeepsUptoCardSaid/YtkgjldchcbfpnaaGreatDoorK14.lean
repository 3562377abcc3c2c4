/- What a node of the evaluator does when its operands stand, and its start, whatever comes of it, walked. -/
import Derived.Test.YtkgjldchcbfpnaaGreatDoorK13
set_option maxRecDepth 10000
set_option linter.unusedVariables false
set_option linter.unusedSimpArgs false
namespace Go.Proofs.YtkgjldchcbfpnaaGreatDoor
open Go Go.Abs Go.CoreX
variable {Γ:List (Nat×List AC)}
section
variable {fu:Int}{fc:FcT}{fns:List Fun}{ou:Outer}{H:Hm}{nm:Nm2}{m m1:Ms}{v:Vl}{tc ec vc kc:AC}{t:Tr}{e:En}{d:List Vl}{k:List Fm}{dc:List (List AC)}{tc0 ec0 vc0 kc0:AC}
theorem Qjc(hΓ:∀g cs,(g,cs)∈Γ->idsL isO cs)(h0:M0 fu fc ou H nm m tc0 ec0 vc0 kc0)(hfc:fc.ids isO)(he:ER H nm e ec)(hd:VsR H nm d dc)(hk:KR H nm k kc)(hl:d.length=1)(h7:t.op=7){x:Except Int Ms}
  (hch:∀ou',M0 fu fc ou' H nm m tc0 ec0 vc0 kc->AFnP Tryz.prog Γ 108 [.one (.ptr (.o 0) 0),.one (.box [.box (cTr t),ec,.sl 1 dc,kc])] ou' (StQ fu fc H nm x) (StP m x)):
  AFnP Tryz.prog Γ 86 [.one (.ptr (.o 0) 0),.one (.box [.box (cTr t),ec,.sl 1 dc,kc])] ou (StQ fu fc H nm x) (StP m x):=by
 have hN:=Q5s h0 hk hfc
 have hei:=he.ids
 have hdi:=hd.ids
 have hki:=hk.ids
 have hdl:=hd.len
 have hop:opdN t=1:=by unfold opdN;rw[if_pos (.inr (.inl h7))]
 have hoX:=h0.ouX
 rw[hoX]
 generalize hmc:ou=ou0 at hN
 clear hoX
 refine AFnP.walk 262 tabOk hΓ Tryz.func86 rfl (by kernel_rfl) rfl rfl fun hou=>?_
 refine zA ?_
 refine ACode.drawX tabOk 10 [(9,.one (int (opdN t)))] follows (by kernel_rfl) rfl rfl rfl rfl ?_ ?_
 ·exact⟨⟨_,rfl,AStep.callPure hΓ rfl rfl rfl (by simp[idsF]) hou (Q46 t)⟩,trivial⟩
 refine zA ?_
 refine ACode.cond rfl (fun hb=>absurd hb (by simp[hdl,hl,hop])) (fun hb=>?_)
 refine zA ?_
 refine ACode.stEq (σ':=⟨0,[],ouX (mC tc0 ec0 vc0 kc m.out m.steps fu fc) m.out.length ou0⟩) (setX _ _ _ _) ?_
 refine ACode.cond rfl (fun hb=>absurd hb (by simp[h7])) (fun _=>?_)
 refine zA ?_
 refine ACode.cond rfl (fun _=>?_) (fun hb=>absurd hb (by simp[h7]))
 refine zA ?_
 refine AOps.callP hΓ (hch _ hN) rfl rfl rfl rfl rfl rfl hN.w.ok ⟨trivial,⟨by simp,hei,hdi,hki,trivial⟩,trivial⟩ (fun ps ou' h ho=>⟨ho,h⟩) fun r ou' hq _ how=>?_
 obtain⟨rfl,H',nm',m',hx,hmo,hM⟩:=hq
 refine zA ?_
 exact StQ.fin rfl hx hmo hM
theorem Qm6(hΓ:∀g cs,(g,cs)∈Γ->idsL isO cs)(h0:M0 fu fc ou H nm m tc0 ec0 vc0 kc0)(hfc:fc.ids isO)(he:ER H nm e ec){v0:Vl}{c0:AC}{ds:List (List AC)}(hv0:VR H nm v0 c0)(hd:VsR H nm d ds)(hk:KR H nm k kc)(hl:d.length+1=t.kids.length)(h3:t.op=3){x:Except Int Ms}
  (hcl:∀ou',M0 fu fc ou' H nm m tc0 ec0 vc0 kc->AFnP Tryz.prog Γ 109 [.one (.ptr (.o 0) 0),.one c0,.one (.sl 1 ds)] ou' (StQ fu fc H nm x) (StP m x)):
  AFnP Tryz.prog Γ 86 [.one (.ptr (.o 0) 0),.one (.box [.box (cTr t),ec,.sl 1 ([c0]::ds),kc])] ou (StQ fu fc H nm x) (StP m x):=by
 have hN:=Q5s h0 hk hfc
 have hei:=he.ids
 have hdi:=hd.ids
 have hvi:=hv0.ids
 have hki:=hk.ids
 have hdl:=hd.len
 have hop:opdN t=t.kids.length:=by unfold opdN;rw[if_neg (by rw[h3];decide)]
 have hoX:=h0.ouX
 rw[hoX]
 generalize hmc:ou=ou0 at hN
 clear hoX
 refine AFnP.walk 262 tabOk hΓ Tryz.func86 rfl (by kernel_rfl) rfl rfl fun hou=>?_
 refine zA ?_
 refine ACode.drawX tabOk 10 [(9,.one (int (opdN t)))] follows (by kernel_rfl) rfl rfl rfl rfl ?_ ?_
 ·exact⟨⟨_,rfl,AStep.callPure hΓ rfl rfl rfl (by simp[idsF]) hou (Q46 t)⟩,trivial⟩
 refine zA ?_
 refine ACode.cond rfl (fun hb=>absurd hb (by simp[hdl,hop];omega)) (fun hb=>?_)
 refine zA ?_
 refine ACode.stEq (σ':=⟨0,[],ouX (mC tc0 ec0 vc0 kc m.out m.steps fu fc) m.out.length ou0⟩) (setX _ _ _ _) ?_
 refine ACode.cond rfl (fun hb=>absurd hb (by simp[h3])) (fun _=>?_)
 refine zA ?_
 refine ACode.cond rfl (fun hb=>absurd hb (by simp[h3])) (fun _=>?_)
 refine zA ?_
 refine ACode.cond rfl (fun _=>?_) (fun hb=>absurd hb (by simp[h3]))
 refine zA ?_
 refine ACode.drawX tabOk 12 [(5,.one (.box [c0])),(11,.one (.sl 1 ds))] follows (by kernel_rfl) rfl rfl rfl rfl ?_ ?_
 ·exact⟨⟨_,rfl,zIA rfl rfl rfl (by decide) rfl⟩,⟨_,rfl,AStep.sliceFrom (b:=1) (es:=[c0]::ds) tabOk rfl rfl rfl rfl rfl rfl rfl (by simp)⟩,trivial⟩
 refine zA ?_
 refine AOps.callP hΓ (hcl _ hN) rfl rfl rfl rfl rfl rfl hN.w.ok ⟨trivial,hvi,hdi,trivial⟩ (fun ps ou' h ho=>⟨ho,h⟩) fun r ou' hq _ how=>?_
 obtain⟨rfl,H',nm',m',hx,hmo,hM⟩:=hq
 refine zA ?_
 exact StQ.fin rfl hx hmo hM
theorem Qh2(hΓ:∀g cs,(g,cs)∈Γ->idsL isO cs)(h0:M0 fu fc ou H nm m tc0 ec0 vc0 kc0)(hfc:fc.ids isO)(he:ER H nm e ec)(hd:VsR H nm d dc)(hk:KR H nm k kc)(hl:d.length=opdN t)(hn:¬(t.op=4∨t.op=7∨t.op=3∨t.op=13∨t.op=12∨t.op=14∨t.op=15∨t.op=16))
  {x:Except Int (Ms×Vl)}
  (hpl:∀ou',M0 fu fc ou' H nm m tc0 ec0 vc0 kc->AFnP Tryz.prog Γ 113 [.one (.ptr (.o 0) 0),.one (.box (cTr t)),.one (.sl 1 dc)] ou' (PlE fu fc H nm x tc0 ec0 vc0 kc) (PlP m x)):
  AFnP Tryz.prog Γ 86 [.one (.ptr (.o 0) 0),.one (.box [.box (cTr t),ec,.sl 1 dc,kc])] ou (StQ fu fc H nm (x.map fun (m1,v)=>{ m1 with c:=.rt v,k:=k })) (StP m (x.map fun (m1,v)=>{ m1 with c:=.rt v,k:=k })):=by
 have hN:=Q5s h0 hk hfc
 simp only[not_or]at hn
 have hei:=he.ids
 have hdi:=hd.ids
 have hki:=hk.ids
 have hdl:=hd.len
 have hoX:=h0.ouX
 rw[hoX]
 generalize hmc:ou=ou0 at hN
 clear hoX
 refine AFnP.walk 262 tabOk hΓ Tryz.func86 rfl (by kernel_rfl) rfl rfl fun hou=>?_
 refine zA ?_
 refine ACode.drawX tabOk 10 [(9,.one (int (opdN t)))] follows (by kernel_rfl) rfl rfl rfl rfl ?_ ?_
 ·exact⟨⟨_,rfl,AStep.callPure hΓ rfl rfl rfl (by simp[idsF]) hou (Q46 t)⟩,trivial⟩
 refine zA ?_
 refine ACode.cond rfl (fun hb=>absurd hb (by simp[hdl,hl])) (fun hb=>?_)
 refine zA ?_
 refine ACode.stEq (σ':=⟨0,[],ouX (mC tc0 ec0 vc0 kc m.out m.steps fu fc) m.out.length ou0⟩) (setX _ _ _ _) ?_
 refine ACode.cond rfl (fun hb=>absurd hb (by simp[hn.1])) (fun _=>?_)
 refine zA ?_
 refine ACode.cond rfl (fun hb=>absurd hb (by simp[hn.2.1])) (fun _=>?_)
 refine zA ?_
 refine ACode.cond rfl (fun hb=>absurd hb (by simp[hn.2.2.1])) (fun _=>?_)
 refine zA ?_
 refine ACode.cond rfl (fun hb=>absurd hb (by simp[hn.2.2.2.1])) (fun _=>?_)
 refine zA ?_
 refine ACode.cond rfl (fun hb=>absurd hb (by simp[hn.2.2.2.2.1])) (fun _=>?_)
 refine zA ?_
 refine ACode.cond rfl (fun hb=>absurd hb (by simp[hn.2.2.2.2.2.1])) (fun _=>?_)
 refine zA ?_
 refine ACode.cond rfl (fun hb=>absurd hb (by simp[hn.2.2.2.2.2.2.1])) (fun _=>?_)
 refine zA ?_
 refine ACode.cond rfl (fun hb=>absurd hb (by simp[hn.2.2.2.2.2.2.2])) (fun _=>?_)
 refine zA ?_
 refine ACode.drawCS tabOk 15 11 12 13 14 (.one (.ptr (.o 0) 0)) (.one (.ptr (.o 0) 0)) []
  (fun r σ => ∃ m1 v kt H1 nm1 c ou1, x = .ok (m1, v) /\ r = .one c /\ σ = ⟨0, [], ouX (mC tc0 ec0 vc0 kc m1.out m1.steps fu ⟨fc.ac, kt⟩) m1.out.length ou1⟩ /\ Mo H nm H1 nm1 /\ VR H1 nm1 v c /\ WR (ouX (mC tc0 ec0 vc0 kc m1.out m1.steps fu ⟨fc.ac, kt⟩) m1.out.length ou1) H1 nm1 m1.heap)
  (fun r σ => ∃ m1 v kt H1 nm1 c ou1, x = .ok (m1, v) /\ r = .one c /\ σ = ⟨0, [], ouX (mC nilPE ec0 vc0 kc m1.out m1.steps fu ⟨fc.ac, kt⟩) m1.out.length ou1⟩ /\ Mo H nm H1 nm1 /\ VR H1 nm1 v c /\ WR (ouX (mC tc0 ec0 vc0 kc m1.out m1.steps fu ⟨fc.ac, kt⟩) m1.out.length ou1) H1 nm1 m1.heap)
  follows (by kernel_rfl) rfl rfl (by decide) (by kernel_rfl) (by kernel_rfl) rfl rfl rfl rfl rfl rfl rfl ?_ ?_ trivial (fun _ _ _=>trivial) (fun _ _ _=>trivial) ?_ ?_ ?_ ?_ ?_
 ·rintro r σ ⟨m1,v,kt,H1,nm1,c,ou1,hx,rfl,rfl,_⟩;rfl
 ·rintro r σ ⟨m1,v,kt,H1,nm1,c,ou1,hx,rfl,rfl,_⟩;rfl
 ·refine Q1c.callP hΓ (hpl _ hN) rfl rfl rfl rfl ⟨trivial,by simp,hdi,trivial⟩ hN.w.ok (fun r ou' hq hr ho=>?_) fun ps ou' h ho=>⟨ho,?_⟩
  rotate_left
  ·obtain⟨c,hx,h1,h2⟩:=h
   exact⟨c,by rw[hx];rfl,h1,h2⟩
  obtain⟨m1,v,hx,kt,H1,nm1,c,rfl,h1,h2,h3⟩:=hq
  have hw:=h3.w
  have e:=h3.ouX
  rw[e]at hw
  exact⟨m1,v,kt,H1,nm1,c,ou',hx,rfl,by rw[←e],h1,h2,hw⟩
 ·rintro r σ ⟨m1,v,kt,H1,nm1,c,ou1,hx,rfl,rfl,_⟩;exact AStep.ofOp tabOk rfl
 ·rintro r σ ⟨m1,v,kt,H1,nm1,c,ou1,hx,rfl,rfl,_⟩;exact AStep.ofOp tabOk rfl
 ·rintro r σ ⟨m1,v,kt,H1,nm1,c,ou1,hx,rfl,rfl,h1⟩;exact⟨_,⟨m1,v,kt,H1,nm1,c,ou1,hx,rfl,setX _ _ _ _,h1⟩,AStep.ofStore tabOk rfl⟩
 ·rintro r σ ⟨m1,v,kt,H1,nm1,c,ou1,hx,rfl,rfl,h1,h2,h3⟩
  refine zA ?_
  have hM:MR fu ⟨fc.ac,kt⟩ (St.set ⟨0,[],ouX (mC nilPE ec0 vc0 kc m1.out m1.steps fu ⟨fc.ac,kt⟩) m1.out.length ou1⟩ (.o 0) (.cells (mC nilPE ec0 c kc m1.out m1.steps fu ⟨fc.ac,kt⟩))).ou H1 nm1 { m1 with c:=.rt v,k:=k }:=MR.ofRt h3 h2 (hk.mo h1) h0.ids.2.1 hfc rfl rfl (fun _=>rfl)
  exact StQ.fin rfl (by rw[hx];rfl) h1 ⟨hM.ex⟩
theorem Qgo(hΓ:∀g cs,(g,cs)∈Γ->idsL isO cs)(h0:M0 fu fc ou H nm m (.box (cTr t)) ec vc kc)(he:ER H nm e ec)(hk:KR H nm m.k kc)(h1:¬(t.op=0∨t.op=1∨t.op=2∨t.op=17∨t.op=5)){x:Except Int Ms}
  (hkid:AFnP Tryz.prog Γ 86 [.one (.ptr (.o 0) 0),.one (.box [.box (cTr t),ec,.sl 1 [],kc])] ou (StQ fu fc H nm x) (StP m x)):AFnP Tryz.prog Γ 88 [.one (.ptr (.o 0) 0)] ou (StQ fu fc H nm x) (StP m x):=by
 have hei:=he.ids
 have hki:=hk.ids
 have hoX:=h0.ouX
 rw[hoX]at hkid ⊢
 generalize hmc:ou=ou0 at hkid
 clear hoX
 refine AFnP.walk 149 tabOk hΓ Tryz.func88 rfl (by kernel_rfl) rfl rfl fun hou=>?_
 cases t with
 |mk to tn tb tk ta=>
 simp only[Tr.op]at h1
 have e0:to≠0:=fun e=>h1 (.inl e)
 have e1:to≠1:=fun e=>h1 (.inr (.inl e))
 have e2:to≠2:=fun e=>h1 (.inr (.inr (.inl e)))
 have e17:to≠17:=fun e=>h1 (.inr (.inr (.inr (.inl e))))
 have e5:to≠5:=fun e=>h1 (.inr (.inr (.inr (.inr e))))
 refine zA ?_
 refine ACode.cond rfl (fun hb=>absurd (by simpa using hb) e0) (fun _=>?_)
 refine zA ?_
 refine ACode.cond rfl (fun hb=>absurd (by simpa using hb) e1) (fun _=>?_)
 refine zA ?_
 refine ACode.cond rfl (fun hb=>absurd (by simpa using hb) e2) (fun _=>?_)
 refine zA ?_
 refine ACode.cond rfl (fun hb=>absurd (by simpa using hb) e17) (fun _=>?_)
 refine zA ?_
 refine ACode.cond rfl (fun hb=>absurd (by simpa using hb) e5) (fun _=>?_)
 refine zA ?_
 refine ACode.drawXH (va:=.one (.ptr (.l 0) 0)) (σ1:=St.push ⟨0,[],ouX (mC (.box (cTr (.mk to tn tb tk ta))) ec vc kc m.out m.steps fu fc) m.out.length ou0⟩ (.cells [.box (cTr (.mk to tn tb tk ta)),ec,.lit (.slice none 0 0),kc])) tabOk 12 11 [] follows (by kernel_rfl) rfl rfl rfl rfl rfl rfl rfl (HStep.auto tabOk rfl) trivial trivial ?_
 refine AOps.freeze1 (.l 0) 26 rfl rfl ?_
 refine AOps.wk 26 rfl (y:=.one (.box [.box (cTr (.mk to tn tb tk ta)),ec,.sl 1 [],kc])) (.one (Wk.box (.cons (.refl _) (.cons (.refl _) (.cons (.nilS 1) (.cons (.refl _) .nil)))))) ?_
 refine AOps.callP hΓ hkid rfl rfl rfl rfl rfl rfl hou ⟨trivial,⟨by simp,hei,trivial,hki,trivial⟩,trivial⟩ (fun ps ou' h ho=>⟨ho,h⟩) fun r ou' hq _ how=>?_
 obtain⟨rfl,H',nm',m',hx,hmo,hM⟩:=hq
 refine zA ?_
 exact StQ.fin rfl hx hmo hM
theorem slot_no(hΓ:∀g cs,(g,cs)∈Γ->idsL isO cs){c:AC}{n:Nat}(hc:notT tCap c∨∃g l,c=iB tCap [int g,.sl 1 l]/\l.length<=n)(ou:Outer):AFnP Tryz.prog Γ 112 [.one c,.one (int n)] ou (fun _ _=>False) (fun ps ou'=>ps=trapE 5/\ou'=ou):=by
 refine AFnP.walk 32 tabOk hΓ Tryz.func112 rfl (by kernel_rfl) rfl rfl fun hou=>?_
 refine zA ?_
 rcases hc with hno|⟨g,l,rfl,hl⟩
 ·refine zS (AStep.assertNo Q4h rfl zCap rfl rfl hno) ?_
  refine zM ?_
  refine zS (AStep.mkIfcA Q0s rfl rfl) ?_
  exact AOps.panicI rfl rfl rfl fun w C v hv=>⟨hou,Q0x hv,rfl⟩
 ·refine zS (AStep.assertYes Q4h rfl rfl) ?_
  refine zM ?_
  refine ACode.cond rfl (fun _=>?_) (fun hb=>absurd hb (by simp;omega))
  refine zA ?_
  refine zS (AStep.mkIfcA Q0s rfl rfl) ?_
  exact AOps.panicI rfl rfl rfl fun w C v hv=>⟨hou,Q0x hv,rfl⟩
theorem Q9q(hΓ:∀g cs,(g,cs)∈Γ->idsL isO cs)(h0:M0 fu fc ou H nm m tc0 ec0 vc0 kc0)(hfc:fc.ids isO)(he:ER H nm e ec){c:AC}(hci:c.ids isO)(hk:KR H nm k kc)(hkl:t.kids.length=1)(h16:t.op=16){n:Nat}(hn:t.n=(n:Int))(hc:notT tCap c∨∃g l,c=iB tCap [int g,.sl 1 l]/\l.length<=n){x:Except Int Ms}(hx:x=.error 5){Q:FV->Outer->Prop}:
  AFnP Tryz.prog Γ 86 [.one (.ptr (.o 0) 0),.one (.box [.box (cTr t),ec,.sl 1 [[c]],kc])] ou Q (StP m x):=by
 have hN:=Q5s h0 hk hfc
 have hei:=he.ids
 have hki:=hk.ids
 have hpr:=hN.pr
 have hw:=hN.w
 have hoX:=h0.ouX
 rw[hoX]
 generalize hmc:ou=ou0 at hN hw hpr
 clear hoX
 obtain⟨o,tn,b,ks,al⟩:=t
 simp only[Tr.op,Tr.n,Tr.kids]at h16 hn hkl
 subst h16;subst hn
 have hop:opdN (.mk 16 (n:Int) b ks al)=1:=by show ks.length=1;exact hkl
 refine AFnP.walk 262 tabOk hΓ Tryz.func86 rfl (by kernel_rfl) rfl rfl fun hou=>?_
 refine zA ?_
 refine ACode.drawX tabOk 10 [(9,.one (int (opdN (.mk 16 (n:Int) b ks al))))] follows (by kernel_rfl) rfl rfl rfl rfl ?_ ?_
 ·exact⟨⟨_,rfl,AStep.callPure hΓ rfl rfl rfl (by simp[idsF]) hou (Q46 _)⟩,trivial⟩
 refine zA ?_
 refine ACode.cond rfl (fun hb=>absurd hb (by simp[hop])) (fun hb=>?_)
 refine zA ?_
 refine ACode.stEq (σ':=⟨0,[],ouX (mC tc0 ec0 vc0 kc m.out m.steps fu fc) m.out.length ou0⟩) (setX _ _ _ _) ?_
 refine zA ?_
 refine ACode.drawPan tabOk 19 15 [16,17,18] [(6,.one (.box [c]))] follows (by kernel_rfl) rfl rfl (by kernel_rfl) (by kernel_rfl) rfl ?_ rfl rfl rfl (by kernel_rfl) rfl ?_
 ·exact⟨⟨_,rfl,zIA rfl rfl rfl (by decide) rfl⟩,trivial⟩
 ·refine Q1c.callP hΓ (slot_no hΓ hc _) rfl rfl rfl rfl ⟨hci,trivial,trivial⟩ hw.ok (fun r ou' h=>h.elim) fun ps ou' h ho2=>?_
  obtain⟨rfl,rfl⟩:=h
  exact⟨ho2,5,hx,rfl,hpr⟩
theorem Qhf(hΓ:∀g cs,(g,cs)∈Γ->idsL isO cs){kt:Nat}(h0:M0 fu ⟨.sl 2 (fns.map cFun),kt⟩ ou H nm m tc0 ec0 vc0 kc){n:Nat}{sl:List Vl}{c:AC}(hv:VR H nm (.cap (n:Int) sl) c){f:Fun}(hf:fns[n]?=some f){l:List Vl}{cs:List (List AC)}(hl:VsR H nm l cs)(hpl:f.params.length≠l.length+1)(h20:l.length<=1048576){x:Except Int Ms}(hx:x=.error 5){Q:FV->Outer->Prop}:
  AFnP Tryz.prog Γ 109 [.one (.ptr (.o 0) 0),.one c,.one (.sl 1 cs)] ou Q (StP m x):=by
 have hoX:=h0.ouX
 have hvi:=hv.ids
 have hli:=hl.ids
 have hll:=hl.len
 have hpr:=h0.pr
 rw[hoX]at hpr ⊢
 generalize hmc:ou=ou0 at hpr
 clear hoX
 obtain⟨scs,rfl⟩:∃scs,c=iB tCap [int n,.sl 1 scs]:=by
  rcases hv.isCap with ⟨g,fs,cs,h1,h2,h3⟩|⟨h1,_⟩
  ·cases h1;exact⟨cs,h2⟩
  ·exact absurd rfl (h1 _ sl)
 have n1:notT tClo (iB tCap [int n,.sl 1 scs]):=.inr ⟨_,_,_,rfl,rfl⟩
 have hsc:(fns.map cFun)[n]?=some (cFun f):=by rw[List.getElem?_map,hf];rfl
 refine AFnP.walk 137 tabOk hΓ Tryz.func109 rfl (by kernel_rfl) rfl rfl fun hou=>?_
 refine zA ?_
 refine zS (AStep.assertNo Q4y rfl zClo rfl rfl n1) ?_
 refine zA ?_
 refine zS (AStep.assertYes Q4h rfl rfl) ?_
 refine zA ?_
 refine ACode.drawXA tabOk 11 10 [(8,.one (.box (cFun f)))] follows (by kernel_rfl) rfl rfl rfl rfl rfl rfl rfl rfl rfl ?_ ?_ ?_
 ·exact⟨⟨_,rfl,zIA rfl rfl rfl (by show (0:Int)<=(n:Int);omega) (by simpa using hsc)⟩,trivial⟩
 ·exact⟨⟨_,rfl,zIA rfl rfl rfl (by show (0:Int)<=(n:Int);omega) (by simpa using hsc)⟩,trivial⟩
 refine zM ?_
 refine ACode.cond rfl (fun hb=>absurd hb (by simp;omega)) (fun _=>?_)
 refine zA ?_
 refine zS (AStep.mkIfcA Q0s rfl rfl) ?_
 exact AOps.panicI rfl rfl rfl fun w C v hv=>⟨hou,5,hx,Q0x hv,hpr⟩
theorem Qgm(hΓ:∀g cs,(g,cs)∈Γ->idsL isO cs)(h0:M0 fu fc ou H nm m (.box (cTr t)) ec vc kc)(h17:t.op=17){x:Except Int Ms}(hx:x=.error t.n){Q:FV->Outer->Prop}:AFnP Tryz.prog Γ 88 [.one (.ptr (.o 0) 0)] ou Q (StP m x):=by
 have hpr:=h0.pr
 have hoX:=h0.ouX
 rw[hoX]at hpr ⊢
 generalize hmc:ou=ou0 at hpr
 clear hoX
 refine AFnP.walk 149 tabOk hΓ Tryz.func88 rfl (by kernel_rfl) rfl rfl fun hou=>?_
 cases t with
 |mk to tn tb tk ta=>
 obtain rfl:to=17:=h17
 refine zA ?_
 refine zS (AStep.mkIfcA Q0s rfl rfl) ?_
 exact AOps.panicI rfl rfl rfl fun w C v hv=>⟨hou,tn,hx,Q0x hv,hpr⟩
end
end Go.Proofs.YtkgjldchcbfpnaaGreatDoor
namespace Go.CoreX
def rowOk (ls:List Int):Prop:=ls.Pairwise (· < ·)/\∀x∈ls,0<=x/\x < 1048576
theorem Qic{ls:List Int}(h:rowOk ls):ls.length<=1048576:=by
 have key:∀(l:List Int) (a:Int),l.Pairwise (· < ·)->(∀x∈l,a<=x/\x < 1048576)->a<=1048576->(l.length:Int)<=1048576 - a:=by
  intro l
  induction l with
  |nil=>intro a _ _ h;simp;omega
  |cons y l ih=>
   intro a hp hx ha
   rw[List.pairwise_cons]at hp
   have hy:=hx y (by simp)
   have:=ih (y+1) hp.2 (fun x hxl=>⟨by have:=hp.1 x hxl;omega,(hx x (by simp[hxl])).2⟩) (by omega)
   simp only[List.length_cons]
   omega
 have:=key ls 0 h.1 h.2 (by omega)
 omega
theorem Qij{ls:List Int}(h:ls.Pairwise (· < ·)){i j:Nat}(hij:i < j)(hj:j < ls.length):ls.getD i 0 < ls.getD j 0:=by
 rw[List.getD_eq_getElem?_getD,List.getD_eq_getElem?_getD,List.getElem?_eq_getElem hj,List.getElem?_eq_getElem (by omega)]
 exact List.pairwise_iff_getElem.1 h i j (by omega) hj hij
theorem Q94{ls:List Int}(h:ls.Pairwise (· < ·))(x:Int):∀(g i j:Nat),i<=j->j<=ls.length->j - i<=g->(∀k,k < i->ls.getD k 0 < x)->(∀k,j<=k->k < ls.length->x<=ls.getD k 0) ->
  (∀ k, k < bsGo ls x g i j -> ls.getD k 0 < x) /\ (∀ k, bsGo ls x g i j <= k -> k < ls.length -> x <= ls.getD k 0)
 |0,i,j,h1,h2,h3,h4,h5=>by
  have:i=j:=by omega
  subst this
  exact⟨h4,h5⟩
 |g+1,i,j,h1,h2,h3,h4,h5=>by
  unfold bsGo
  split
  ·rename_i hij
   split
   ·rename_i hlt
    refine Q94 h x g _ _ (by omega) h2 (by omega) (fun k hk=>?_) h5
    rcases Nat.lt_or_ge k ((i+j) / 2)with hk2|hk2
    ·have:=Qij h hk2 (by omega);omega
    ·rw[show k=(i+j) / 2 by omega];exact hlt
   ·rename_i hge
    refine Q94 h x g _ _ (by omega) (by omega) (by omega) h4 fun k hk hkl=>?_
    rcases Nat.lt_or_ge ((i+j) / 2) k with hk2|hk2
    ·have:=Qij h hk2 hkl;omega
    ·rw[show k=(i+j) / 2 by omega];omega
  ·rename_i hij
   have:i=j:=by omega
   subst this
   exact⟨h4,h5⟩
theorem Qid{ls:List Int}(h:rowOk ls){n:Int}(hn:0<=n/\n < 1048576)(hb:bsIs ls n=false):rowOk (ls.take (bsAt ls n)++n::ls.drop (bsAt ls n)):=by
 obtain⟨h1,h2⟩:=Q94 h.1 n ls.length 0 ls.length (Nat.zero_le _) (Nat.le_refl _) (by omega) (fun k hk=>by omega) (fun k hk hl=>by omega)
 have hgt:∀k,bsAt ls n<=k->k < ls.length->n < ls.getD k 0:=fun k hk hl=>by
  have h3:=h2 k hk hl
  have hne:ls.getD (bsAt ls n) 0≠n:=fun e=>by
   have:bsIs ls n=true:=by
    unfold bsIs
    rw[e]
    simp;omega
   rw[hb]at this;cases this
  rcases Nat.lt_or_ge (bsAt ls n) k with hk2|hk2
  ·have hbl:bsGo ls n ls.length 0 ls.length < ls.length:=Nat.lt_trans hk2 hl
   have h4:=h2 _ (Nat.le_refl _) hbl
   have h5:=Qij h.1 hk2 hl
   have:n<=ls.getD (bsAt ls n) 0:=h4
   omega
  ·have e:k=bsAt ls n:=by omega
   subst e;omega
 have mt:∀x∈ls.take (bsAt ls n),x < n:=fun x hx=>by
  obtain⟨k,hk⟩:=List.mem_iff_getElem?.1 hx
  have hkl:=(List.getElem?_eq_some_iff.1 hk).1
  simp at hkl
  rw[List.getElem?_take_of_lt (by omega)]at hk
  have:=h1 k (show k < bsAt ls n by omega)
  rw[List.getD_eq_getElem?_getD,hk]at this
  exact this
 have md:∀x∈ls.drop (bsAt ls n),n < x:=fun x hx=>by
  obtain⟨k,hk⟩:=List.mem_iff_getElem?.1 hx
  have hkl:=(List.getElem?_eq_some_iff.1 hk).1
  simp at hkl
  rw[List.getElem?_drop]at hk
  have:=hgt (bsAt ls n+k) (by omega) (by omega)
  rw[List.getD_eq_getElem?_getD,hk]at this
  exact this
 refine⟨List.pairwise_append.2 ⟨h.1.sublist (List.take_sublist _ _),List.pairwise_cons.2 ⟨md,h.1.sublist (List.drop_sublist _ _)⟩,fun a ha b hb2=>?_⟩,fun x hx=>?_⟩
 ·have:=mt a ha
  rcases List.mem_cons.1 hb2 with rfl|hb3
  ·exact this
  ·have:=md b hb3;omega
 ·rcases List.mem_append.1 hx with hx|hx
  ·exact h.2 x (List.mem_of_mem_take hx)
  ·rcases List.mem_cons.1 hx with rfl|hx
   ·exact hn
   ·exact h.2 x (List.mem_of_mem_drop hx)
end Go.CoreX
namespace Go.Proofs.YtkgjldchcbfpnaaGreatDoor
open Go Go.Abs Go.CoreX
variable {Γ:List (Nat×List AC)}
structure FragU (fns:List Fun)(hi:Bool)(l:Lab):Prop where
 sh:shpQ l
 op:l.op=12∨l.op=13->hi=true
 bl:l.binds.length<=1048576
 al:l.alts.length<=1048576
 ab:∀a∈l.alts,a.binds.length<=1048576
 kl:l.ops.length<=1048576
 wd:l.op=1->inW l.n
 rc:l.op=5->∀i,i < l.binds.length->l.ops[i]?=some 2
 cl:l.op=14∨l.op=15->0<=l.n/\l.n < fns.length
 ar:l.op=14->(fns.getD l.n.toNat ⟨[],default⟩).params.length=l.ops.length
 sl:l.op=16->0<=l.n
 rb:l.op=9->rowOk l.binds
 rn:l.op=11->0<=l.n/\l.n < 1048576
structure FnsU (fns:List Fun)(hi:Bool):Prop where
 b:∀f∈fns,allT (FragU fns hi) f.body
 p:∀f∈fns,f.params.length<=1048576
def GU (fns:List Fun)(hi:Bool):GP:={ p:=FragU fns hi,S:=fun _=>True,W:=inW,fns:=fns,R:=hi=true,RW:=rowOk }
theorem GUok{fns:List Fun}{hi:Bool}(hf:FnsU fns hi):GPok (GU fns hi) where
 sh:=fun l h=>h.sh
 bnd:=fun _ _ _ _=>trivial
 wd:=fun l h h1=>h.wd h1
 rc:=fun l h h1=>h.rc h1
 wr:=fun n=>by show inW (wrapW n);unfold inW wrapW;omega
 wl:=fun n h0 h1=>by show inW n;unfold inW;omega
 wm:=fun a b ha hb=>Ql4 ha hb
 fn:=fun f h=>⟨hf.b f h,fun _ _=>trivial⟩
 cl:=fun l h ho=>h.cl ho
 rs:=fun l h ho=>h.op (.inl ho)
 rw:=fun l h ho=>h.rb ho
 ri:=fun l h ho ls hl hb=>Qid hl (h.rn ho) hb
theorem GUopn{fns:List Fun}{hi:Bool}{t:Tr}(h:allT (FragU fns hi) t):opdN t<=1048576:=by
 have F:FragU fns hi ⟨t.op,t.n,t.binds,t.kids.map Tr.op,t.alts⟩:=Q10 h
 have:=F.kl
 simp at this
 unfold opdN
 split <;> omega

section
variable {fu:Int}{ac:AC}
structure MoreU (fns:List Fun)(hi:Bool)(fu:Int)(ac:AC)(Γ:List (Nat×List AC)):Prop where
 res:hi=true->∀(ou:Outer) (H:Hm) (nm:Nm2) (m:Ms) (k fs:List Fm) (kc tc0 ec0 vc0:AC) (kt:Nat) (vc:AC) (a:Vl) (c:AC),M0 fu ⟨ac,kt⟩ ou H nm m tc0 ec0 vc0 kc->KR H nm k kc->VR H nm (.res fs) vc->VR H nm a c->gFs (GU fns hi) fs->(fs++k).length<=1048576->
  AFn Tryz.prog Γ 109 [.one (.ptr (.o 0) 0),.one vc,.one (.sl 1 [[c]])] ou (StQ fu ⟨ac,kt⟩ H nm (.ok { m with c:=.rt a,k:=fs++k }))
 kid:hi=true->∀(ou:Outer) (H:Hm) (nm:Nm2) (m m':Ms) (t:Tr) (e:En) (d:List Vl) (k:List Fm) (ec kc tc0 ec0 vc0 kc0:AC) (dc:List (List AC)) (kt:Nat),M0 fu ⟨ac,kt⟩ ou H nm m tc0 ec0 vc0 kc0->ER H nm e ec->VsR H nm d dc->KR H nm k kc->
  allT (FragU fns hi) t->gFs (GU fns hi) k->k.length<=1048576->d.length=1->t.op=12∨t.op=13->kidM fu fns m (.mk t e d) k=.ok m'->AFn Tryz.prog Γ 86 [.one (.ptr (.o 0) 0),.one (.box [.box (cTr t),ec,.sl 1 dc,kc])] ou (StQ fu ⟨ac,kt⟩ H nm (.ok m'))
theorem MoreU.no{fns:List Fun}{fu:Int}{ac:AC}:MoreU fns false fu ac Γ:=⟨(fun h=>by cases h),(fun h=>by cases h)⟩
theorem PR.k{ou:Outer}{m:Ms}{k:List Fm}(h:PR ou { m with k:=k }):PR ou m:=⟨h.ok,h.m0⟩
theorem M0.k{fc:FcT}{ou:Outer}{H:Hm}{nm:Nm2}{m:Ms}{k:List Fm}{tc ec vc kc:AC}(h:M0 fu fc ou H nm m tc ec vc kc):M0 fu fc ou H nm { m with k:=k } tc ec vc kc:=⟨h.ids,h.m0,h.w⟩
def KidP (fu:Int)(ac:AC)(G:GP)(Γ:List (Nat×List AC)):Prop:=∀(ou:Outer)(H:Hm)(nm:Nm2)(m:Ms)(t:Tr)(e:En)(d:List Vl)(k:List Fm)(ec kc tc0 ec0 vc0 kc0:AC)(dc:List (List AC))(kt:Nat),M0 fu ⟨ac,kt⟩ ou H nm m tc0 ec0 vc0 kc0->ER H nm e ec->VsR H nm d dc->KR H nm k kc->
 allT G.p t->gE G e->gVs G d->d.length<=opdN t->nLf t.op->gFs G k->(G.R->k.length<=1048576)->m.out.length<=1000->0<=m.steps/\m.steps<=1000000->(t.op=12->∃m',kidM fu G.fns m (.mk t e d) k=.ok m')->(∀m',kidM fu G.fns m (.mk t e d) k=.ok m'->G.R->m'.k.length<=1048576)->
 AFnP Tryz.prog Γ 86 [.one (.ptr (.o 0) 0),.one (.box [.box (cTr t),ec,.sl 1 dc,kc])] ou (StQ fu ⟨ac,kt⟩ H nm (kidM fu G.fns m (.mk t e d) k)) (StP m (kidM fu G.fns m (.mk t e d) k))
def StartP (fu:Int)(ac:AC)(G:GP)(Γ:List (Nat×List AC)):Prop:=∀(ou:Outer)(H:Hm)(nm:Nm2)(m:Ms)(t:Tr)(e:En)(ec vc kc:AC)(kt:Nat),M0 fu ⟨ac,kt⟩ ou H nm m (.box (cTr t)) ec vc kc->ER H nm e ec->KR H nm m.k kc->
 allT G.p t->gE G e->gFs G m.k->(G.R->m.k.length<=1048576)->m.out.length<=1000->0<=m.steps/\m.steps<=1000000->(t.op=12->∃m',Q0l fu G.fns m t e=.ok m')->(∀m',Q0l fu G.fns m t e=.ok m'->G.R->m'.k.length<=1048576)->
 AFnP Tryz.prog Γ 88 [.one (.ptr (.o 0) 0)] ou (StQ fu ⟨ac,kt⟩ H nm (Q0l fu G.fns m t e)) (StP m (Q0l fu G.fns m t e))
theorem kidU(hΓ:∀g cs,(g,cs)∈Γ->idsL isO cs){fns:List Fun}{hi:Bool}(hf:FnsU fns hi)(hfu:0<=fu/\fu<=1000000)(hmore:MoreU fns hi fu (.sl 2 (fns.map cFun)) Γ):KidP fu (.sl 2 (fns.map cFun)) (GU fns hi) Γ:=by
 intro ou H nm m t e d k ec kc tc0 ec0 vc0 kc0 dc kt h0 he hd hk ht hge hgd hle hn hgk hkb hol hst h12 hnx
 have F:FragU fns hi ⟨t.op,t.n,t.binds,t.kids.map Tr.op,t.alts⟩:=Q10 ht
 have hsh:=g_sh (GUok hf) ht
 have hopk:=g_opN (GUok hf) ht
 have hfc:(FcT.mk (.sl 2 (fns.map cFun)) kt).ids isO:=by show idsS isO _;simp
 show AFnP _ _ _ _ _ (StQ fu _ H nm (kidM fu fns m (.mk t e d) k)) (StP m (kidM fu fns m (.mk t e d) k))
 replace h12:t.op=12->∃m',kidM fu fns m (.mk t e d) k=.ok m':=h12
 replace hnx:∀m',kidM fu fns m (.mk t e d) k=.ok m'->hi=true->m'.k.length<=1048576:=hnx
 by_cases hlt:d.length < opdN t
 ·obtain⟨s,hs⟩:=Q01 (Nat.lt_of_lt_of_le hlt hopk)
  exact Qm4 (fns:=fns) hΓ h0 hfc he hd hk hlt hs
 have hl:d.length=opdN t:=by omega
 have hnl:¬(Fm.mk t e d).done.length < opdN (Fm.mk t e d).t:=hlt
 have hkm:∀{x:Except Int Ms},x=kidM fu fns m (.mk t e d) k->AFnP Tryz.prog Γ 86 [.one (.ptr (.o 0) 0),.one (.box [.box (cTr t),ec,.sl 1 dc,kc])] ou (StQ fu ⟨.sl 2 (fns.map cFun),kt⟩ H nm x) (StP m x)->AFnP Tryz.prog Γ 86 [.one (.ptr (.o 0) 0),.one (.box [.box (cTr t),ec,.sl 1 dc,kc])] ou (StQ fu ⟨.sl 2 (fns.map cFun),kt⟩ H nm (kidM fu fns m (.mk t e d) k)) (StP m (kidM fu fns m (.mk t e d) k)):=fun h1 h2=>by rw[←h1];exact h2
 have hwr:∀v∈d,wdV v/\rowV v:=fun v hv=>by
  have hg:=Q1z.1 hgd v hv
  refine⟨fun n hn=>by rw[hn]at hg;exact hg,fun ls fs hr=>?_⟩
  rw[hr]at hg
  exact⟨hg.1,Qic hg.2.1⟩
 have hops:=Qi5 hsh
 obtain⟨o,n,b,ks,al⟩:=t
 simp only[Tr.op,Tr.n,Tr.binds,Tr.kids,Tr.alts]at F hsh h12 hops
 by_cases h1213:o=12∨o=13
 · -- an operation, a handler
  have hhi:hi=true:=F.op h1213
  have hl1:d.length=1:=by rw[hl];exact if_pos (show o=4∨o=7∨o=13∨o=12 by omega)
  obtain⟨m',hx⟩:∃m',kidM fu fns m (.mk (.mk o n b ks al) e d) k=.ok m':=by
   rcases h1213 with h|h
   ·exact h12 h
   ·have hx:kidM fu fns m (.mk (.mk o n b ks al) e d) k=.ok { m with c:=.ev (ks.getD 1 default) (.bind ((al.getD 0 ⟨0,[]⟩).binds.getD 0 0) (d.getD 0 .nil) e),k:=k }:=by
     unfold kidM
     rw[if_neg hnl]
     rw[if_neg (show ¬(Fm.mk (Tr.mk o n b ks al) e d).t.op=4 from (by omega:¬o=4)),if_neg (show ¬(Fm.mk (Tr.mk o n b ks al) e d).t.op=7 from (by omega:¬o=7)),if_neg (show ¬(Fm.mk (Tr.mk o n b ks al) e d).t.op=3 from (by omega:¬o=3)),if_pos (show (Fm.mk (Tr.mk o n b ks al) e d).t.op=13 from h)]
     rfl
    exact⟨_,hx⟩
  refine hkm hx.symm (AFn.toP ?_)
  exact hmore.kid hhi ou H nm m m' _ e d k ec kc tc0 ec0 vc0 kc0 dc kt h0 he hd hk ht hgk (hkb hhi) hl1 h1213 hx
 by_cases h3:o=3
 ·subst h3
  have hopn:opdN (.mk 3 n b ks al)=ks.length:=rfl
  have hkl:=hsh.app.1
  rw[hopn]at hl
  match d,hd,hl with
  |[],_,hl=>simp at hl;omega
  |v0::ds,hd,hl=>
   obtain⟨c0,dcs,rfl,hv0,hds⟩:=hd.consE
   have hke:callM fns { m with k:=k } v0 ds=kidM fu fns m (.mk (.mk 3 n b ks al) e (v0::ds)) k:=by
    unfold kidM;rw[if_neg hnl];rfl
   rw[←hke]at hnx ⊢
   refine Qm6 hΓ h0 hfc he hv0 hds hk (by simpa using hl) rfl (fun ou' h0'=>?_)
   cases v0 with
   |clo t' e'=>
    obtain⟨g1,g2,g3⟩:=hgd.1
    have F':FragU fns hi ⟨t'.op,t'.n,t'.binds,t'.kids.map Tr.op,t'.alts⟩:=Q10 g2
    have hsh':=g_sh (GUok hf) g2
    rw[g1]at hsh'
    obtain⟨s,hs⟩:=Q01 (l:=t'.kids) (i:=0) (by have:=hsh'.lam.1;omega)
    cases hv0 with
    |clo _ _ c he'=>exact Qmn hΓ h0' hfc hk he' hds hs F'.bl
    |cloP _ _ c q hq he'=>exact Qkg hΓ h0' hfc hk hq he' hds hs F'.bl
   |cap g s=>
    obtain⟨⟨hg0,hg1⟩,_⟩:=hgd.1
    obtain⟨i,rfl⟩:∃i:Nat,g=(i:Int):=⟨g.toNat,by omega⟩
    have hi2:i < fns.length:=by have:((i:Int)) < ((GU fns hi).fns.length:Int):=hg1;simpa[GU]using this
    obtain⟨f,hfi⟩:=Q01 hi2
    have hgd':fns.getD (i:Int).toNat ⟨[],default⟩=f:=by rw[Int.toNat_natCast,List.getD_eq_getElem?_getD,hfi];rfl
    simp only[callM,hgd']
    by_cases hpl:f.params.length=ds.length+1
    ·rw[if_pos hpl]
     exact AFn.toP (Qmo hΓ h0' hk hv0 hfi hds hpl (hf.p f (List.mem_of_getElem? hfi)))
    ·rw[if_neg hpl]
     exact Qhf hΓ h0' hv0 hfi hds hpl (by have:=F.kl;simp at this;simp at hl;omega) rfl
   |res fs=>
    have hR:hi=true:=hgd.1.1
    by_cases h1:ds.length=1
    ·obtain⟨a,rfl⟩:=list1 h1
     obtain⟨c,ds2,rfl,hva,hnil⟩:=hds.consE
     have hz:=hnil.nilE
     subst hz
     exact AFn.toP (hmore.res hR ou' H nm m k fs kc tc0 ec0 vc0 kt _ a c h0' hk hv0 hva hgd.1.2 (hnx _ rfl hR))
    ·exact Qkf hΓ h0' hv0 hds (by simp) (by simp) (.inr h1)
   |_=>exact Qkf hΓ h0' hv0 hds (by simp) (by simp) (.inl (by simp))
 by_cases h4:o=4
 ·subst h4
  obtain⟨v,rfl⟩:=list1 (l:=d) hl
  obtain⟨hk2,hb1,_⟩:=hsh.lett
  obtain⟨id,rfl⟩:=list1 hb1
  obtain⟨s0,s1,rfl⟩:=list2 hk2
  exact kid_let (fns:=fns) (t:=.mk 4 n [id] [s0,s1] al) (s:=s1) (id:=id) hΓ h0 hfc he hd hk (v:=v) rfl rfl rfl rfl
 by_cases h7:o=7
 ·subst h7
  obtain⟨v,rfl⟩:=list1 (l:=d) hl
  have hke:Q2v { m with k:=k } (.mk 7 n b ks al) e v=kidM fu fns m (.mk (.mk 7 n b ks al) e [v]) k:=by
   unfold kidM;rw[if_neg hnl];rfl
  refine hkm hke (Qjc hΓ h0 hfc he hd hk rfl rfl fun ou' h0'=>?_)
  exact Qkd (t:=.mk 7 n b ks al) hΓ h0' hfc he hd hk (v:=v) rfl hsh.case.1 F.al F.ab kc hk.ids
 by_cases h14:o=14
 ·subst h14
  obtain⟨h1,h2⟩:=F.cl (.inl rfl)
  obtain⟨i,rfl⟩:∃i:Nat,n=(i:Int):=⟨n.toNat,by simp only at h1;omega⟩
  have hi2:i < fns.length:=by simpa using h2
  obtain⟨f,hfi⟩:=Q01 hi2
  have hgd':fns.getD (i:Int).toNat ⟨[],default⟩=f:=by rw[Int.toNat_natCast,List.getD_eq_getElem?_getD,hfi];rfl
  have har:=F.ar rfl
  simp only[hgd',List.length_map]at har
  have hdl:d.length=ks.length:=hl
  have hke:Except.ok { m with c:=.ev f.body (allE .nil f.params d),k:=k }=kidM fu fns m (.mk (.mk 14 (i:Int) b ks al) e d) k:=by
   unfold kidM;rw[if_neg hnl];rw[←hgd'];rfl
  exact hkm hke (AFn.toP (kid_fn (t:=.mk 14 (i:Int) b ks al) hΓ h0 he hd hk hdl rfl rfl hfi (by omega) (hf.p f (List.mem_of_getElem? hfi))))
 by_cases h15:o=15
 ·subst h15
  have hke:Except.ok { m with c:=.rt (.cap n d),k:=k }=kidM fu fns m (.mk (.mk 15 n b ks al) e d) k:=by
   unfold kidM;rw[if_neg hnl];rfl
  exact hkm hke (AFn.toP (Qm5 hΓ h0 hfc he hd hk hl rfl))
 by_cases h16:o=16
 ·subst h16
  have hn0:0<=n:=F.sl rfl
  obtain⟨i,rfl⟩:∃i:Nat,n=(i:Int):=⟨n.toNat,by omega⟩
  have hopn:opdN (.mk 16 (i:Int) b ks al)=ks.length:=rfl
  have hk1:ks.length=1:=(hsh.one (.inr (.inr rfl))).1
  obtain⟨v,rfl⟩:=list1 (l:=d) (by omega)
  obtain⟨c,dd,rfl,hv,hdd⟩:=hd.consE
  have hz:=hdd.nilE
  subst hz
  have hke:(match (generalizing:=false) v with
   |.cap _ slots=>if (i:Int) < slots.length then (Except.ok { m with c:=.rt (slots.getD (i:Int).toNat .nil),k:=k }:Except Int Ms)else .error 5
   |_=>.error 5)=kidM fu fns m (.mk (.mk 16 (i:Int) b ks al) e [v]) k:=by
   unfold kidM;rw[if_neg hnl];rfl
  refine hkm hke ?_
  rcases hv.isCap with ⟨g,s,l,rfl,rfl,hsl⟩|⟨hvn,hno⟩
  ·have hsll:=hsl.len
   simp only
   by_cases hlt2:(i:Int) < s.length
   ·rw[if_pos hlt2]
    obtain⟨y,hy⟩:=Q01 (show i < s.length by omega)
    have hgy:s.getD (i:Int).toNat .nil=y:=by rw[Int.toNat_natCast,List.getD_eq_getElem?_getD,hy];rfl
    rw[hgy]
    exact AFn.toP (Qm3 (t:=.mk 16 (i:Int) b ks al) hΓ h0 hfc he hv hk hk1 rfl rfl hy)
   ·rw[if_neg hlt2]
    exact Q9q (t:=.mk 16 (i:Int) b ks al) hΓ h0 hfc he hv.ids hk hk1 rfl rfl (.inr ⟨g,l,rfl,by omega⟩) rfl
  ·refine Q9q (t:=.mk 16 (i:Int) b ks al) hΓ h0 hfc he hv.ids hk hk1 rfl rfl (.inl hno) ?_
   cases v <;> first|rfl|exact absurd rfl (hvn _ _)
 · -- a plain node
  have hpo:o=6∨o=8∨o=9∨o=10∨o=11:=by
   unfold nLf at hn
   simp only[Tr.op]at hn
   omega
  have hdl:d.length=ks.length:=by rw[hl];exact if_neg (show ¬(o=4∨o=7∨o=13∨o=12) by omega)
  have hke:(Q17 fu { m with k:=k } (.mk o n b ks al) d).map (fun (m1,v)=>{ m1 with c:=.rt v,k:=k })=kidM fu fns m (.mk (.mk o n b ks al) e d) k:=by
   unfold kidM
   rw[if_neg hnl]
   rw[if_neg (show ¬(Fm.mk (Tr.mk o n b ks al) e d).t.op=4 from h4),if_neg (show ¬(Fm.mk (Tr.mk o n b ks al) e d).t.op=7 from h7),if_neg (show ¬(Fm.mk (Tr.mk o n b ks al) e d).t.op=3 from h3),if_neg (show ¬(Fm.mk (Tr.mk o n b ks al) e d).t.op=13 from (by omega:¬o=13)),if_neg (show ¬(Fm.mk (Tr.mk o n b ks al) e d).t.op=12 from (by omega:¬o=12)),if_neg (show ¬(Fm.mk (Tr.mk o n b ks al) e d).t.op=14 from h14),if_neg (show ¬(Fm.mk (Tr.mk o n b ks al) e d).t.op=15 from h15),if_neg (show ¬(Fm.mk (Tr.mk o n b ks al) e d).t.op=16 from h16)]
   show _=(Q17 fu { m with k:=k } (.mk o n b ks al) d).map (fun (m',v)=>{ m' with c:=.rt v })
   cases hp:Q17 fu { m with k:=k } (.mk o n b ks al) d with
   |error c=>rfl
   |ok mv=>
    obtain⟨m1,v⟩:=mv
    have hpk:=(Q4r hp).2.2
    cases m1
    simp only at hpk
    rw[hpk];rfl
  refine hkm hke (Qh2 hΓ h0 hfc he hd hk hl (by simp only[Tr.op];omega) fun ou' h0'=>?_)
  refine AFnP.mono (Qgr (m:={ m with k:=k }) (t:=.mk o n b ks al) hΓ h0'.k hfc hst hfu hol hd hpo hsh hdl hwr) (fun r ou2 hq=>?_) fun ps ou2 hq=>?_
  ·exact hq
  ·obtain⟨c,h1,h2,h3⟩:=hq
   exact⟨c,h1,h2,h3.k⟩
theorem startU(hΓ:∀g cs,(g,cs)∈Γ->idsL isO cs){fns:List Fun}{hi:Bool}(hf:FnsU fns hi)(hk:KidP fu (.sl 2 (fns.map cFun)) (GU fns hi) Γ):StartP fu (.sl 2 (fns.map cFun)) (GU fns hi) Γ:=by
 intro ou H nm m t e ec vc kc kt h0 he hkr ht hge hgk hkb hol hst h12 hnx
 have F:FragU fns hi ⟨t.op,t.n,t.binds,t.kids.map Tr.op,t.alts⟩:=Q10 ht
 have hsh:=g_sh (GUok hf) ht
 have hfc:(FcT.mk (.sl 2 (fns.map cFun)) kt).ids isO:=by show idsS isO _;simp
 show AFnP _ _ _ _ _ (StQ fu _ H nm (Q0l fu fns m t e)) (StP m (Q0l fu fns m t e))
 replace h12:t.op=12->∃m',Q0l fu fns m t e=.ok m':=h12
 replace hnx:∀m',Q0l fu fns m t e=.ok m'->hi=true->m'.k.length<=1048576:=hnx
 by_cases e0:t.op=0
 ·have hx:Q0l fu fns m t e=.ok { m with c:=.rt (findE t.n e) }:=by unfold Q0l;rw[if_pos e0]
  rw[hx];exact AFn.toP (Qi0 hΓ h0 hfc he hkr e0)
 by_cases e1:t.op=1
 ·have hx:Q0l fu fns m t e=.ok { m with c:=.rt (.word t.n) }:=by unfold Q0l;rw[if_neg e0,if_pos e1]
  rw[hx];exact AFn.toP (Qi3 hΓ h0 hfc hkr e1)
 by_cases e2:t.op=2
 ·have hx:Q0l fu fns m t e=.ok { m with c:=.rt (.clo t e) }:=by unfold Q0l;rw[if_neg e0,if_neg e1,if_pos e2]
  rw[hx];exact AFn.toP (Qi2 hΓ h0 hfc he hkr e2)
 by_cases e17:t.op=17
 ·exact Qgm hΓ h0 e17 (by unfold Q0l;rw[if_neg e0,if_neg e1,if_neg e2,if_pos e17])
 by_cases e5:t.op=5
 ·rw[e5]at hsh
  have hx:Q0l fu fns m t e=.ok { m with c:=.ev (t.kids.getD t.binds.length default) (.recs t e) }:=by unfold Q0l;rw[if_neg e0,if_neg e1,if_neg e2,if_neg e17,if_pos e5]
  rw[hx];exact AFn.toP (Qi1 hΓ h0 hfc he hkr e5 hsh.recs.1 F.bl)
 ·have hx:Q0l fu fns m t e=kidM fu fns m (.mk t e []) m.k:=by unfold Q0l;rw[if_neg e0,if_neg e1,if_neg e2,if_neg e17,if_neg e5]
  rw[hx]at h12 hnx ⊢
  have hnl:nLf t.op:=fun h=>by rcases h with h|h|h|h|h <;> contradiction
  exact Qgo hΓ h0 he hkr hnl (hk ou H nm m t e [] m.k ec kc _ _ _ _ [] kt h0 he .nil hkr ht hge trivial (Nat.zero_le _) hnl hgk hkb hol hst h12 hnx)
end
end Go.Proofs.YtkgjldchcbfpnaaGreatDoor
namespace Go.CoreX
theorem Qio{fu:Int}{m m':Ms}{n:Int}{l:List Vl}{v:Vl}(h:primM fu m n l=.ok (m',v)):m.out.length<=1000->m'.out.length<=1000:=by
 unfold primM at h
 repeat' split at h
 all_goals try (simp only[bind,Except.bind,pure,Except.pure]at h;repeat' split at h)
 all_goals try (cases h;done)
 all_goals try (cases h;exact id)
 ·rename_i hne
  cases h;intro h1;simp;omega
 ·unfold Q3r at h
  repeat' split at h
  all_goals try (cases h;done)
  cases h;exact id
 ·unfold Q33 at h
  simp only[bind,Except.bind,pure,Except.pure]at h
  repeat' split at h
  all_goals try (cases h;done)
  all_goals (cases h;exact id)
theorem Qgq{fu:Int}{m m':Ms}{t:Tr}{l:List Vl}{v:Vl}(h:Q17 fu m t l=.ok (m',v)):m.out.length<=1000->m'.out.length<=1000:=by
 unfold Q17 at h
 repeat' split at h
 ·cases h;exact id
 ·exact Qio h
 ·cases h;exact id
 ·simp only[bind,Except.bind,pure,Except.pure]at h
  repeat' split at h
  all_goals try (cases h;done)
  all_goals (cases h;exact id)
 ·simp only[bind,Except.bind,pure,Except.pure]at h
  repeat' split at h
  all_goals try (cases h;done)
  all_goals (cases h;exact id)
theorem Qfr{fu:Int}{fns:List Fun}{m m':Ms}{f:Fm}{k:List Fm}(h:kidM fu fns m f k=.ok m'):m.out.length<=1000->m'.out.length<=1000:=by
 unfold kidM at h
 repeat' split at h
 all_goals try (cases h;done)
 all_goals try (cases h;exact id)
 ·unfold Q2v at h
  split at h
  ·cases hc:Q16 _ _ f.e f.t.kids 0 f.t.alts <;> rw[hc]at h <;> cases h
   exact id
  ·cases h
 ·unfold callM at h
  repeat' split at h
  all_goals try (cases h;done)
  all_goals (cases h;exact id)
 ·rw[Q8c _ _ h];exact id
 ·cases hp:Q17 fu { m with k:=k } f.t f.done with
  |error c=>rw[hp]at h;cases h
  |ok mv=>
   rw[hp]at h;cases h
   obtain⟨m2,v2⟩:=mv
   exact Qgq (m:={ m with k:=k }) (m':=m2) hp
theorem Qgn{fu:Int}{fns:List Fun}{m m':Ms}{t:Tr}{e:En}(h:Q0l fu fns m t e=.ok m'):m.out.length<=1000->m'.out.length<=1000:=by
 unfold Q0l at h
 repeat' split at h
 all_goals try (cases h;done)
 all_goals try (cases h;exact id)
 exact Qfr h
theorem Q9i{fu:Int}{fns:List Fun}{m m':Ms}(h:Q0i fu fns m=.next m'):m.out.length<=1000->m'.out.length<=1000:=by
 unfold Q0i at h
 repeat' split at h
 all_goals try (cases h;done)
 ·rename_i hk;cases h;exact Qfr hk
 ·rename_i hk;cases h;exact Qgn (m:={ m with steps:=m.steps+1 }) hk

structure RunInv (fu:Int)(fns:List Fun)(R:Prop)(I:Ms->Prop):Prop where
 st:∀m m',I m->Q0i fu fns m=.next m'->I m'
 fr:R->∀m,I m->m.k.length<=1048576
 pf:∀m,I m->∀v f k,m.c=.rt v->m.k=f::k->f.t.op=12->∃m',kidM fu fns m (.mk f.t f.e (f.done++[v])) k=.ok m'
end Go.CoreX
namespace Go.Proofs.YtkgjldchcbfpnaaGreatDoor
open Go Go.Abs Go.CoreX
variable {Γ:List (Nat×List AC)}
section
variable {fu:Int}{ac:AC}{G:GP}
def RunQ (fu:Int)(ac:AC)(kt0:Nat)(r:Rd):FV->Outer->Prop:=fun b ou'=>match r with
 |.done mf vf=>b=.one (.lit (.bool true))/\mf.c=.rt vf/\mf.k=[]/\∃H' nm',MR fu ⟨ac,kt0⟩ ou' H' nm' mf
 |.fuel=>b=.one (.lit (.bool false))/\∃m H' nm',MR fu ⟨ac,kt0⟩ ou' H' nm' m
 |_=>False
def RunP (r:Rd):List PanicEntry->Outer->Prop:=fun ps ou'=>∃c m,r=.trap c m/\ps=trapE c/\PR ou' m
theorem Qlg(hΓ:∀g cs,(g,cs)∈Γ->idsL isO cs)(hac:ac.ids isO)(hG:GPok G)(hopn:∀t,allT G.p t->opdN t<=1048576)(hkid:KidP fu ac G Γ)(hstart:StartP fu ac G Γ){I:Ms->Prop}(hI:RunInv fu G.fns G.R I){ou:Outer}{H:Hm}{nm:Nm2}{m0:Ms}{kt0:Nat}(h0:MR fu ⟨ac,kt0⟩ ou H nm m0)(hg0:gM G m0){g0:Nat}{r0:Rd}(hgo:goX fu G.fns g0 m0=some r0)(hi0:I m0)(hol0:m0.out.length<=1000)(hfu:0<=fu/\fu<=1000000)(hst0:0<=m0.steps/\m0.steps<=fu):
  AFnP Tryz.prog Γ 50 [.one (.ptr (.o 0) 0)] ou (RunQ fu ac kt0 r0) (RunP r0):=by
 refine AFnP.walk 70 tabOk hΓ Tryz.func50 rfl (by kernel_rfl) rfl rfl fun hou=>?_
 refine zA ?_
 refine ACode.loopR hΓ (α:=Outer×Hm×Nm2×Ms) (fun a=>[(0,.one (.ptr (.o 0) 0))]) (fun a=>⟨0,[],a.1⟩) (fun g a=>MR fu ⟨ac,kt0⟩ a.1 a.2.1 a.2.2.1 a.2.2.2/\gM G a.2.2.2/\goX fu G.fns g a.2.2.2=some r0/\(0<=a.2.2.2.steps/\a.2.2.2.steps<=fu)/\I a.2.2.2/\a.2.2.2.out.length<=1000)
  (a0:=(ou,H,nm,m0)) (ρ:=_root_.id) ⟨h0,hg0,hgo,hst0,hi0,hol0⟩ (LessR.of rfl zFW (by simp) zLO rfl rfl hou) fun g a ha=>?_
 obtain⟨ou1,H1,nm1,m⟩:=a
 obtain⟨hM,hgm,hgo,hst,hIm,holm⟩:=ha
 dsimp only at hM hgm hgo hst hIm holm ⊢
 clear hou h0 hg0 hst0 hi0 hol0
 obtain⟨kt,tc,ec,vc,kc,hCR,hKR,h0⟩:=hM.ex
 have hou:=h0.w.ok
 obtain⟨g,rfl⟩:∃g',g=g'+1:=by
  cases g with
  |zero=>cases hgo
  |succ g=>exact⟨g,rfl⟩
 simp only[goX]at hgo
 have hkl:G.R->m.k.length<=1048576:=fun hR=>hI.fr hR m hIm
 have hIn:∀m1,Q0i fu G.fns m=.next m1->I m1:=fun m1 h1=>hI.st m m1 hIm h1
 have hpf:=hI.pf m hIm
 have hnle:∀m1,Q0i fu G.fns m=.next m1->m1.steps<=fu:=fun m1 h1=>(Q8a h1 hst.2).1
 have hnol:∀m1,Q0i fu G.fns m=.next m1->m1.out.length<=1000:=fun m1 h1=>Q9i h1 holm
 have hids:=h0.ids
 have hoX:=h0.ouX
 have hki:=hKR.ids
 have hw:=h0.w
 rw[hoX]at hw hou ⊢
 obtain⟨mc,mk,mo,ms,mh⟩:=m
 dsimp only at hgo hst hw hou hids hki holm h0 hkl hIn hpf hnle hnol ⊢
 cases hCR with
 |ev t e ec vc he=>
  have hei:=he.ids
  by_cases hsf:ms=fu
  ·have hr:Q0i fu G.fns ⟨.ev t e,mk,mo,ms,mh⟩=.fuel:=by simp[Q0i,hsf]
   rw[hr]at hgo
   cases hgo
   refine zA ?_
   refine zS (AStep.neNilBox Tryz.underlying65 rfl rfl rfl) ?_
   refine zM ?_
   refine zS (AStep.eqNilBox Tryz.underlying65 rfl rfl rfl) ?_
   refine zA ?_
   refine ACode.drawX tabOk 8 [] follows (by kernel_rfl) rfl rfl rfl rfl trivial ?_
   refine zA ?_
   refine ACode.cond rfl (fun _=>?_) (fun hb=>absurd hsf (by simpa using hb))
   refine zA ?_
   refine AFn.fin' rfl (WkF.ofEq rfl) (by simp) hou ⟨rfl,⟨.ev t e,mk,mo,ms,mh⟩,H1,nm1,⟨⟨kt,_,ec,vc,kc,.ev t e ec vc he,hKR,?_⟩⟩⟩
   rw[←hoX];exact h0
  rw[Qf1 rfl hsf]at hgo
  refine zA ?_
  refine zS (AStep.neNilBox Tryz.underlying65 rfl rfl rfl) ?_
  refine zM ?_
  refine zS (AStep.eqNilBox Tryz.underlying65 rfl rfl rfl) ?_
  refine zA ?_
  refine ACode.drawX tabOk 8 [] follows (by kernel_rfl) rfl rfl rfl rfl trivial ?_
  refine zA ?_
  refine ACode.cond rfl (fun hb=>absurd (by simpa using hb) hsf) (fun _=>?_)
  refine zM ?_
  have hN:M0 fu ⟨ac,kt⟩ (St.set ⟨0,[],ouX (mC (.box (cTr t)) ec vc kc mo ms fu ⟨ac,kt⟩) mo.length ou1⟩ (.o 0) (.cells (mC (.box (cTr t)) ec vc kc mo (ms+1) fu ⟨ac,kt⟩))).ou H1 nm1 ⟨.ev t e,mk,mo,ms+1,mh⟩ (.box (cTr t)) ec vc kc:=
   ⟨hids,rfl,hw.put (mc':=mC (.box (cTr t)) ec vc kc mo (ms+1) fu ⟨ac,kt⟩) (by simp[mC,hids,hei,hki,hac]) rfl rfl (fun _=>rfl)⟩
  have hrn:∀m',Q0l fu G.fns ⟨.ev t e,mk,mo,ms+1,mh⟩ t e=.ok m'->Q0i fu G.fns ⟨.ev t e,mk,mo,ms,mh⟩=.next m':=fun m' hx=>by rw[Qf1 rfl hsf,hx];rfl
  have h12:t.op=12->∃m',Q0l fu G.fns ⟨.ev t e,mk,mo,ms+1,mh⟩ t e=.ok m':=fun h=>by
   have ho1:opdN t=1:=by unfold opdN;rw[if_pos (by omega)]
   unfold Q0l
   rw[if_neg (by omega),if_neg (by omega),if_neg (by omega),if_neg (by omega),if_neg (by omega)]
   unfold kidM
   rw[if_pos (show (Fm.mk t e []).done.length < opdN (Fm.mk t e []).t by simp[ho1])]
   exact⟨_,rfl⟩
  refine AOps.callP hΓ (hstart _ H1 nm1 _ t e ec vc kc kt hN he hKR hgm.c.1 hgm.c.2 hgm.k hkl holm ⟨by dsimp only;omega,by dsimp only;omega⟩ h12 fun m' hx hR=>hI.fr hR m' (hIn m' (hrn m' hx))) rfl rfl rfl rfl rfl rfl hN.w.ok ⟨trivial,trivial⟩ (fun ps ou2 hq how=>⟨how,?_⟩) fun r ou2 hq _ how=>?_
  ·obtain⟨c,hx,h1,h2⟩:=hq
   rw[hx]at hgo
   cases hgo
   exact⟨c,_,rfl,h1,h2⟩
  obtain⟨rfl,H',nm',m',hx,hmo,hM2⟩:=hq
  have hgm':gM G m':=Qap hG hgm (hrn m' hx)
  have haf:=Ql8 (fu:=fu) (fns:=G.fns) hx
  simp only at haf
  simp only[hx,rdOf]at hgo
  refine zA ?_
  exact cInv ⟨g,(ou2,H',nm',m'),_root_.id,by omega,⟨⟨hM2.ex⟩,hgm',hgo,⟨by dsimp only;omega,hnle m' (hrn m' hx)⟩,hIn m' (hrn m' hx),hnol m' (hrn m' hx)⟩,LessR.of rfl zFW (by simp) zLO rfl rfl how⟩
 |rt v ec vc hv=>
  have hvi:=hv.ids
  cases hKR with
  |nil=>
   have hr:Q0i fu G.fns ⟨.rt v,[],mo,ms,mh⟩=.done ⟨.rt v,[],mo,ms,mh⟩ v:=by simp[Q0i]
   rw[hr]at hgo
   cases hgo
   refine zA ?_
   refine zS (AStep.neNil0 Tryz.underlying65 rfl rfl rfl) ?_
   refine zM ?_
   refine zS (AStep.neNil0 Tryz.underlying69 rfl rfl rfl) ?_
   refine zM ?_
   refine AFn.fin' rfl (WkF.ofEq rfl) (by simp) hou ⟨rfl,rfl,rfl,H1,nm1,⟨⟨kt,nilPE,ec,vc,nilPE,.rt _ ec vc hv,.nil,?_⟩⟩⟩
   rw[←hoX];exact h0
  |cons t e d k ec2 dc kc2 he hd hk=>
   have hei:=he.ids
   have hdi:=hd.ids
   have hk2i:=hk.ids
   have hgf:=hgm.k
   obtain⟨⟨g1,g2,g3,g4,gn⟩,g5⟩:=hgf
   have hdl:=hd.len
   rw[Qf0 (f:=.mk t e d) (k:=k) rfl rfl]at hgo
   have hrn:∀m',kidM fu G.fns ⟨.rt v,.mk t e d::k,mo,ms,mh⟩ (.mk t e (d++[v])) k=.ok m'->Q0i fu G.fns ⟨.rt v,.mk t e d::k,mo,ms,mh⟩=.next m':=fun m' hx=>by rw[Qf0 (f:=.mk t e d) (k:=k) rfl rfl];simp only[Fm.t_mk,Fm.e_mk,Fm.done_mk,hx];rfl
   have hopt:=hopn t g1
   have hD:VsR H1 nm1 (d++[v]) (dc++[[vc]]):=hd.snoc hv
   have hDi:=hD.ids
   have hcl:=Qkc hΓ dc (by omega) hdi hd.ones
   refine zA ?_
   refine zS (AStep.neNil0 Tryz.underlying65 rfl rfl rfl) ?_
   refine zM ?_
   refine zS (AStep.neNilBox Tryz.underlying69 rfl rfl rfl) ?_
   refine zM ?_
   refine zS (AStep.eqNil0 Tryz.underlying65 rfl rfl rfl) ?_
   refine zA ?_
   have hkd:=hkid (ouX (mC nilPE ec vc (.box [.box (cTr t),ec2,.sl 1 dc,kc2]) mo ms fu ⟨ac,kt⟩) mo.length ou1) H1 nm1 ⟨.rt v,.mk t e d::k,mo,ms,mh⟩ t e (d++[v]) k ec2 kc2 nilPE ec vc (.box [.box (cTr t),ec2,.sl 1 dc,kc2]) (dc++[[vc]]) kt (by rw[←hoX];exact h0) he hD hk g1 g2 (Qdz g3 ⟨hgm.c,trivial⟩) (by simp;omega) gn g5 (fun hR=>by have:=hkl hR;simp only[List.length_cons]at this;omega) holm ⟨hst.1,by dsimp only;omega⟩ (fun h12=>hpf v (.mk t e d) k rfl rfl h12) fun m' hx hR=>hI.fr hR m' (hIn m' (hrn m' hx))
   refine ACode.drawC2 tabOk 26 [13,19,24,25] [(18,.one (.sl 1 [[vc]]))] (fun vs σ=>match vs with
    |[]=>σ=⟨0,[],ouX (mC nilPE ec vc (.box [.box (cTr t),ec2,.sl 1 dc,kc2]) mo ms fu ⟨ac,kt⟩) mo.length ou1⟩
    |[a]=>∃ou2,Qkx dc (ouX (mC nilPE ec vc (.box [.box (cTr t),ec2,.sl 1 dc,kc2]) mo ms fu ⟨ac,kt⟩) mo.length ou1) a (ouX (mC nilPE ec vc (.box [.box (cTr t),ec2,.sl 1 dc,kc2]) mo ms fu ⟨ac,kt⟩) mo.length ou2)/\σ=⟨0,[],ouX (mC nilPE ec vc (.box [.box (cTr t),ec2,.sl 1 dc,kc2]) mo ms fu ⟨ac,kt⟩) mo.length ou2⟩
    |[a,b]=>b=.one (.sl 1 (dc++[[vc]]))/\σ=⟨1,[],ouX (mC nilPE ec vc (.box [.box (cTr t),ec2,.sl 1 dc,kc2]) mo ms fu ⟨ac,kt⟩) mo.length ou1⟩
    |[a,b,c]=>b=.one (.sl 1 (dc++[[vc]]))/\c=.agg [.box (cTr t),ec2,.sl 1 (dc++[[vc]]),kc2]/\σ=⟨1,[],ouX (mC nilPE ec vc (.box [.box (cTr t),ec2,.sl 1 dc,kc2]) mo ms fu ⟨ac,kt⟩) mo.length ou1⟩
    |[a,b,c,g]=>b=.one (.sl 1 (dc++[[vc]]))/\c=.agg [.box (cTr t),ec2,.sl 1 (dc++[[vc]]),kc2]/\g=.one (.box [.box (cTr t),ec2,.sl 1 (dc++[[vc]]),kc2])/\σ=⟨1,[],ouX (mC nilPE ec vc (.box [.box (cTr t),ec2,.sl 1 dc,kc2]) mo ms fu ⟨ac,kt⟩) mo.length ou1⟩
    |_=>False) follows (by kernel_rfl) rfl rfl (by decide) (by kernel_rfl) (by kernel_rfl) rfl rfl ?_ ?_ (by decide) ?_ ?_
   ·intro vs σ h
    match vs with
    |[]=>subst h;rfl
    |[_]=>obtain⟨_,_,rfl⟩:=h;rfl
    |[_,_]=>obtain⟨_,rfl⟩:=h;rfl
    |[_,_,_]=>obtain⟨_,_,rfl⟩:=h;rfl
    |[_,_,_,_]=>obtain⟨_,_,_,rfl⟩:=h;rfl
    |_::_::_::_::_::_=>exact h.elim
   ·intro vs σ h
    exact⟨⟨_,rfl,HStep.auto tabOk rfl⟩,trivial⟩
   ·intro vs σ h i o hi ho
    match vs with
    |[]=>
     subst h;cases hi;cases ho
     refine⟨rfl,.inl (.inr ⟨rfl,Q0n.call hΓ rfl rfl rfl rfl ⟨hdi,trivial⟩ hou (hcl _) fun r ou' hq hr ho=>?_⟩)⟩
     have e:ou'=ouX (mC nilPE ec vc (.box [.box (cTr t),ec2,.sl 1 dc,kc2]) mo ms fu ⟨ac,kt⟩) mo.length ou':=Qc6 (by
      rcases hq with ⟨_,_,rfl⟩|⟨q,_,_,h1,h2⟩
      ·rfl
      ·rw[h2 0 (by rintro rfl;cases h1)];rfl)
     exact⟨ou',by rw[←e];exact hq,by rw[←e]⟩
    |[a]=>
     obtain⟨ou2,hq,rfl⟩:=h;cases hi;cases ho
     rcases hq with ⟨rfl,rfl,h1⟩|⟨q,rfl,h1,h2,h3⟩
     ·refine⟨rfl,.inl (.inl ⟨_,_,AStep.less (σ2:=⟨1,[],ouX (mC nilPE ec vc (.box [.box (cTr t),ec2,.sl 1 _,kc2]) mo ms fu ⟨ac,kt⟩) mo.length ou1⟩) (AStep.weakV (AStep.append tabOk rfl rfl rfl rfl rfl rfl (Base.nil _ _) (.sl 1 [[vc]]) rfl (by show (0+1) * 16<=140737488355328;decide) (by simp)) (.one (.gsE (by simp)))) rfl ?_,rfl,rfl⟩)⟩
      intro i o hi
      cases i with
      |l j=>cases hi
      |o j=>exact (congrFun h1 j).trans hi
     ·refine⟨rfl,.inl (.inl ⟨_,_,AStep.less (σ2:=⟨1,[],ouX (mC nilPE ec vc (.box [.box (cTr t),ec2,.sl 1 _,kc2]) mo ms fu ⟨ac,kt⟩) mo.length ou1⟩) (AStep.weakV (AStep.append tabOk rfl rfl rfl rfl rfl rfl (Base.gs' _ _ _ _ _ h1 rfl) (.sl 1 [[vc]]) rfl (by simp;show _ * 16<=_;omega) (by simp;omega)) (.one (.gsE (by simp)))) rfl ?_,rfl,rfl⟩)⟩
      intro i o hi
      cases i with
      |l j=>cases hi
      |o j=>
       have hjq:j≠q:=by rintro rfl;have h5:=hi;simp only[St.get]at h5;rw[h2]at h5;cases h5
       have h4:=h3 j hjq
       show (bif Nat.beq j q then some AObj.dead else _)=some o
       rw[Q07 hjq]
       exact h4.trans hi
    |[_,_]=>obtain⟨rfl,rfl⟩:=h;cases hi;cases ho;exact⟨rfl,.inl (.inl ⟨_,_,AStep.ofOp tabOk rfl,rfl,rfl,rfl⟩)⟩
    |[_,_,_]=>obtain⟨rfl,rfl,rfl⟩:=h;cases hi;cases ho;exact⟨rfl,.inl (.inl ⟨_,_,AStep.boxI rfl rfl,rfl,rfl,rfl,rfl⟩)⟩
    |_::_::_::_::_=>cases hi
   ·intro vs σ hl h
    match vs with
    |[a,_,_,_]=>
     obtain⟨rfl,rfl,rfl,rfl⟩:=h
     refine AOps.callP hΓ hkd rfl rfl rfl rfl rfl rfl hou ⟨trivial,⟨by simp,hei,hDi,hk2i,trivial⟩,trivial⟩ (fun ps ou2 hq how=>⟨how,?_⟩) fun r ou2 hq _ how=>?_
     ·obtain⟨c,hx,h1,h2⟩:=hq
      simp only[Fm.t_mk,Fm.e_mk,Fm.done_mk,hx,rdOf]at hgo
      cases hgo
      exact⟨c,_,rfl,h1,h2⟩
     obtain⟨rfl,H',nm',m',hx,hmo,hM2⟩:=hq
     have hgm':gM G m':=Qap hG hgm (hrn m' hx)
     have haf:=(Q57 hx d v (.inl rfl)).ge
     simp only at haf
     simp only[Fm.t_mk,Fm.e_mk,Fm.done_mk,hx,rdOf]at hgo
     refine zA ?_
     exact cInv ⟨g,(ou2,H',nm',m'),_root_.id,by omega,⟨⟨hM2.ex⟩,hgm',hgo,⟨by dsimp only;omega,hnle m' (hrn m' hx)⟩,hIn m' (hrn m' hx),hnol m' (hrn m' hx)⟩,LessR.of rfl zFW (by simp) zLO rfl rfl how⟩
    |[]|[_]|[_,_]|[_,_,_]=>cases hl
    |_::_::_::_::_::_=>exact h.elim
end
end Go.Proofs.YtkgjldchcbfpnaaGreatDoor
namespace Go.Abs
theorem Q7d{T:Tab}{fr:Fr}{σ:St}{a t:Nat}{ti:TI}{i:Id}{off:Nat}{cs:List AC}{x:FV}(ht:Tab.get t T=some ti)(hb:(ti.agg||Nat.beq ti.size 1)=true)(hf:Fr.get a fr=some (.one (.ptr i off)))(hσ:σ.get i=some (.cells cs))(hle:Nat.ble (off+ti.size) cs.length=true)(hx:Q3k ((cs.drop off).take ti.size) (mkFV ti.agg)=some x):aRes1 T fr σ (.cell a t)=some x:=by
 simp only[aRes1,ht,hb,cond_true,hf,aLoad,hσ,hle,hx]
theorem AStep.assertYesA{E:Env}{o:Oper}{fr:Fr}{σ:St}{t T0:TypeId}{x:Operand}{cs:List AC}(hc:E.P.concrete t=true)(ho:o.op=.typeAssert x T0 t true)(hx:aEval E.Γ fr x=some (.one (.ifc t true cs))):AStep E o fr σ (.tup [.agg cs,.one (.lit (.bool true))]) σ:=by
 refine AStep.quiet fun F w C tmps hi hf=>?_
 obtain⟨d,hd⟩:=Q3d hc
 obtain⟨xs,h1,h2⟩:=Q00 (a:=⟨tmps,E.ds⟩) hi hf hx
 rcases h2 with ⟨_,h2⟩|⟨h2,_⟩
 ·refine⟨.tuple #[.agg xs.toArray,.bool true],?_,[.agg xs.toArray,.bool true],rfl,.agg xs.toArray,[.bool true],rfl,⟨xs,rfl,h1⟩,.bool true,[],rfl,⟨rfl,rfl⟩,rfl⟩
  unfold execOp
  simp[ho,h2,Q5j w hd hc]
 ·cases h2
theorem Qft{Γ:List (Nat×List AC)}{F:Nat->Prop}{w':World}{C':Ctx}{σ':St}(hΓ:∀g cs,(g,cs)∈Γ->idsL isO cs)(hi':Inv Γ F w' C' σ')(ho:OuOk σ'.ou):Chg isO w' C' w' { C' with nl:=0 }/\Inv Γ F w' { C' with nl:=0 } ⟨0,[],σ'.ou⟩:=by
 have hc:Chg isO w' C' w' { C' with nl:=0 }:=⟨fun _ _=>rfl,fun _ h=>h,fun i hp ho=>⟨by cases i with|l k=>cases hp|o k=>exact ho,rfl,rfl⟩⟩
 refine⟨hc,⟨hi'.base,rfl,fun g cs hm=>RG.chg hc (hΓ g cs hm) (hi'.glob g cs hm),hi'.prot,fun i o h=>?_,fun i j o o' g k1 k2 k3 k4=>?_⟩⟩
 ·cases i with
  |l k=>cases h
  |o k=>
   obtain⟨k1,k2⟩:=hi'.obj (.o k) o h
   exact⟨k1,k2.ctx isO (ho k o h) trivial k1 hc (fun _ h=>h) (fun _ h=>h)⟩
 ·cases i with
  |l k=>cases k1
  |o k=>cases j with
   |l k=>cases k2
   |o k'=>
    have e1:=AObj.block_ctx (o:=o) isO (i:=.o k) trivial (hi'.obj (.o k) o k1).1 hc
    have e2:=AObj.block_ctx (o:=o') isO (i:=.o k') trivial (hi'.obj (.o k') o' k2).1 hc
    exact hi'.inj (.o k) (.o k') o o' g k1 k2 (by rw[←e1];exact k3) (by rw[←e2];exact k4)
end Go.Abs
namespace Go.Proofs.YtkgjldchcbfpnaaGreatDoor
open Go Go.Abs Go.CoreX
variable {Γ:List (Nat×List AC)}
def resF (R:Rs):FV:=.tup [.agg [.sl 1 (R.out.map cI),int R.fin,int R.val],.one (int R.steps),.one (int R.err)]
abbrev whS (ou':Outer):St:=⟨4,[(3,.cells [int 0]),(2,.cells [int 0]),(1,.cells [.lit (.slice none 0 0),int 0,int 0]),(0,.cells [.ptr (.o 0) 0])],ou'⟩
abbrev whO:List AObj:=[.cells [.ptr (.o 0) 0],.cells [.lit (.slice none 0 0),int 0,int 0],.cells [int 0],.cells [int 0]]
def CatQ (k:Nat)(c:Int)(m:Ms)(ou2:Outer):Prop:=OuOk ou2/\∃r0,ou2 (k+1)=some (.cells [r0,int (rsOf (.trap c m)).fin,int (rsOf (.trap c m)).val])/\Wk r0 (.sl 1 ((rsOf (.trap c m)).out.map cI))/\ou2 (k+2)=some (.cells [int (rsOf (.trap c m)).steps])/\ou2 (k+3)=some (.cells [int (rsOf (.trap c m)).err])
theorem Qhd(hΓ:∀g cs,(g,cs)∈Γ->idsL isO cs){ouY:Outer}{k:Nat}{m:Ms}{c:Int}(hou:OuOk ouY)(hk:0 < k)(hm:∃tc ec vc kc fu fc,ouY 0=some (.cells (mC tc ec vc kc m.out m.steps fu fc)))
  (h0:ouY k=some (.cells [.ptr (.o 0) 0])) (h1:ouY (k+1)=some (.cells [.lit (.slice none 0 0),int 0,int 0])) (h2:ouY (k+2)=some (.cells [int 0])) (h3:ouY (k+3)=some (.cells [int 0]))
  (F:Nat->Prop) (w:World) (C:Ctx) (cargs:List Value) (hnl:C.nl=0) (hi:Inv Γ F w C ⟨0,[],ouY⟩) (hr:RFs w C [.one (.ptr (.o k) 0),.one (.ptr (.o (k+1)) 0),.one (.ptr (.o (k+2)) 0),.one (.ptr (.o (k+3)) 0)] cargs):
  CallsD Tryz.prog 49 cargs.toArray (.panicking (trapE c)) w fun e u' w'=>(∃v,e=.returned v)/\settle u'=.returning/\∃C' ou2,Goes F isO w C w' C'/\C'.nl=0/\Inv Γ F w' C' ⟨0,[],ou2⟩/\CatQ k c m ou2:=by
 obtain⟨tc,ec,vc,kc,fu,fc,hm0⟩:=hm
 simp only[RFs]at hr
 obtain⟨p,_,rfl,hp,q,_,rfl,hq,r,_,rfl,hrr,s,_,rfl,hs,rfl⟩:=hr
 generalize hR:(fun (e:Ending) (u':FrameMode) (w':World)=>(∃v,e=.returned v)/\settle u'=.returning/\∃C' ou2,Goes F isO w C w' C'/\C'.nl=0/\Inv Γ F w' C' ⟨0,[],ou2⟩/\CatQ k c m ou2)=RR
 refine callsD_of_wpS Tryz.func49 rfl fun c₀ cs hu=>?_
 apply wpS_seq
 apply wpS_region
 simp[wpOpsS,go_sem,recoverD,hu,Tryz.ntmps49,Exit.thenS,trapE]
 apply wpS_seq
 apply wpS_region
 simp[wpOpsS,go_sem,recoverD,hu,Exit.thenS]
 refine wpS_cond (t:=true) (by simp[Act.eval,Array.replicate]) ?_
 simp only[if_true]
 refine wpS_of_wp ?_
 have hpv:R w C (.ifc tTrap true [int c]) (.iface tTrap (.agg #[.int .i64 c])):=⟨[.int .i64 c],⟨_,_,rfl,⟨rfl,rfl⟩,rfl⟩,.inl ⟨rfl,rfl⟩⟩
 generalize htm:(#[p,q,r,s]++_:Array Value)=tmps
 have hsz:tmps.size=33:=by rw[←htm];simp
 have hfr:FrOk w C 33 [(4,.one (.ifc tTrap true [int c])),(3,.one (.ptr (.o (k+3)) 0)),(2,.one (.ptr (.o (k+2)) 0)),(1,.one (.ptr (.o (k+1)) 0)),(0,.one (.ptr (.o k) 0))] tmps:=by
  refine⟨hsz,fun j x hj=>?_⟩
  rw[←htm]
  match j,hj with
  |0,hj=>cases hj;exact⟨p,by simp,hp⟩
  |1,hj=>cases hj;exact⟨q,by simp,hq⟩
  |2,hj=>cases hj;exact⟨r,by simp,hrr⟩
  |3,hj=>cases hj;exact⟨s,by simp,hs⟩
  |4,hj=>cases hj;exact⟨_,by simp,hpv⟩
  |j+5,hj=>cases hj
 refine wp_mono ((show ACode ⟨Tryz.prog,tab,Γ,33,[]⟩ _ (Q02 ⟨Tryz.prog,tab,Γ,33,[]⟩ (fun fr σ=>CatQ k c m σ.ou) []) [(4,.one (.ifc tTrap true [int c])),(3,.one (.ptr (.o (k+3)) 0)),(2,.one (.ptr (.o (k+2)) 0)),(1,.one (.ptr (.o (k+1)) 0)),(0,.one (.ptr (.o k) 0))] ⟨0,[],ouY⟩from ?_) F w C w C tmps (Goes.refl _ _ _ _) hi hfr) fun e a w' hp=>?_
 ·refine ACode.seq ?_
  refine zA ?_
  refine zS (AStep.assertYesA Q0s rfl rfl) ?_
  refine zA ?_
  refine ACode.drawX tabOk 11 [(0,.one (.ptr (.o 0) 0)),(3,.one (.gs 1 (m.out.map cI) (.o fc.kt))),(7,.one (.ptr (.o 0) 0)),(10,.one (int m.steps))] follows (by kernel_rfl) rfl rfl rfl rfl ?_ ?_
  ·exact⟨⟨_,rfl,zLD rfl rfl h0 rfl⟩,⟨_,rfl,zLD rfl rfl hm0 rfl⟩,⟨_,rfl,zLD rfl rfl h0 rfl⟩,⟨_,rfl,zLD rfl rfl hm0 rfl⟩,trivial⟩
  obtain⟨r0,hr0⟩:∃r0:AC,r0=.gs 1 (m.out.map cI) (.o fc.kt):=⟨_,rfl⟩
  have hri:r0.ids isO:=by rw[hr0];exact⟨trivial,by simp⟩
  refine AOps.storeOwnA (cs:=[.lit (.slice none 0 0),int 0,int 0]) (vs:=[.gs 1 (m.out.map cI) (.o fc.kt),int c,int 0]) tabOk rfl rfl rfl rfl rfl rfl rfl rfl (show ouY (k+1)=_ from h1) ?_
  rw[Q1v,←hr0]
  refine AOps.storeOwn tabOk rfl rfl rfl rfl rfl rfl rfl (show updO _ _ _ _=_ by rw[Q05 _ (by omega)];exact h2) (by simp) ?_
  rw[Q1v]
  refine AOps.storeOwn tabOk rfl rfl rfl rfl rfl rfl rfl (show updO _ _ _ _=_ by rw[Q05 _ (by omega),Q05 _ (by omega)];exact h3) (by simp) ?_
  rw[Q1v]
  obtain⟨ou2,hou2⟩:∃ou2:Outer,ou2=updO (updO (updO ouY (k+1) (.cells [r0,int c,int 0])) (k+2) (.cells [int m.steps])) (k+3) (.cells [int 0]):=⟨_,rfl⟩
  have e1:ou2 (k+1)=some (.cells [r0,int c,int 0]):=by rw[hou2,Q05 _ (by omega),Q05 _ (by omega),Q04]
  have e2:ou2 (k+2)=some (.cells [int m.steps]):=by rw[hou2,Q05 _ (by omega),Q04]
  have e3:ou2 (k+3)=some (.cells [int 0]):=by rw[hou2,Q04]
  have ho2:OuOk ou2:=by rw[hou2];exact Q0q (Q0q (Q0q hou ⟨hri,trivial,trivial,trivial⟩) ⟨trivial,trivial⟩) ⟨trivial,trivial⟩
  refine AOps.stEq (σ':=⟨1,[(0,.cells [int c]),(0,.cells [int 0])],ou2⟩) (by rw[hou2];rfl) ?_
  refine zA ?_
  refine ACode.cond rfl (fun hb=>?_) (fun hb=>?_)
  ·have hlt:c < 0:=by simpa using hb
   refine zA ?_
   refine AOps.storeOwnA (cs:=[r0,int c,int 0]) (vs:=[.lit (.slice none 0 0),int 0,int 0]) tabOk rfl rfl rfl rfl rfl rfl rfl rfl (show ou2 (k+1)=_ from e1) ?_
   rw[Q1v]
   refine AOps.storeOwn tabOk rfl rfl rfl rfl rfl rfl rfl (show updO _ _ _ _=_ by rw[Q05 _ (by omega)];exact e2) (by simp) ?_
   rw[Q1v]
   refine AOps.storeOwn tabOk rfl rfl rfl rfl rfl rfl rfl (show updO _ _ _ _=_ by rw[Q05 _ (by omega),Q05 _ (by omega)];exact e3) (by simp) ?_
   rw[Q1v]
   refine zA ?_
   refine⟨Q0q (Q0q (Q0q ho2 ⟨trivial,trivial,trivial,trivial⟩) ⟨trivial,trivial⟩) ⟨trivial,trivial⟩,.lit (.slice none 0 0),?_,?_,?_,?_⟩
   ·simp only[rsOf,if_pos hlt]
    show updO _ _ _ _=_
    rw[Q05 _ (by omega),Q05 _ (by omega),Q04];rfl
   ·simp only[rsOf,if_pos hlt];exact .nilS 1
   ·simp only[rsOf,if_pos hlt]
    show updO _ _ _ _=_
    rw[Q05 _ (by omega),Q04];rfl
   ·simp only[rsOf,if_pos hlt]
    show updO _ _ _ _=_
    rw[Q04];rfl
  ·have hge:¬c < 0:=by simpa using hb
   refine zA ?_
   exact⟨ho2,r0,by simp only[rsOf,if_neg hge];exact e1,by simp only[rsOf,if_neg hge];rw[hr0];exact .gsE rfl,by simp only[rsOf,if_neg hge];exact e2,by simp only[rsOf,if_neg hge];exact e3⟩
 ·obtain⟨hd,fr',σ',C',hgo,hi',hf',hk⟩:=hp
  cases e with
  |normal=>
   have hk:CatQ k c m σ'.ou:=hk
   obtain⟨hc,hi2⟩:=Qft hΓ hi' hk.1
   refine⟨hd,_,rfl,.tuple #[],by simp[results,Tryz.results49],?_⟩
   rw[←hR]
   exact⟨⟨_,rfl⟩,rfl,_,σ'.ou,⟨hgo.stp,hgo.chg.trans hc,hgo.no,hgo.newp⟩,rfl,hi2,hk⟩
  |ret=>
   have hk:CatQ k c m σ'.ou:=hk
   obtain⟨hc,hi2⟩:=Qft hΓ hi' hk.1
   refine⟨hd,_,rfl,.tuple #[],by simp[results,Tryz.results49],?_⟩
   rw[←hR]
   exact⟨⟨_,rfl⟩,rfl,_,σ'.ou,⟨hgo.stp,hgo.chg.trans hc,hgo.no,hgo.newp⟩,rfl,hi2,hk⟩
  |panic ps=>exact hk.elim
  |exit id=>exact hk.elim
  |goto l=>exact hk.elim
  |outgrown=>exact hk.elim
theorem Qmm(hΓ:∀g cs,(g,cs)∈Γ->idsL isO cs){ou':Outer}{m:Ms}(hpr:PR ou' m)(c:Int){x0 x5 x6:FV}:
  Caught Tryz.prog tab Γ Tryz.f23 49 [] [.ptr (.l 0) 0,.ptr (.l 1) 0,.ptr (.l 2) 0,.ptr (.l 3) 0] (fun r _=>r=resF (rsOf (.trap c m))) (trapE c)
   [(6,x6),(5,x5),(4,.one (.ptr (.l 3) 0)),(3,.one (.ptr (.l 2) 0)),(2,.one (.ptr (.l 1) 0)),(1,.one (.ptr (.l 0) 0)),(0,x0)] (whS ou'):=by
 intro F w C tmps xs ys hi hf hx hy
 simp only[RV]at hx hy
 subst hx
 obtain⟨y0,_,rfl,hy0,y1,_,rfl,hy1,y2,_,rfl,hy2,y3,_,rfl,hy3,rfl⟩:=hy
 obtain⟨C2,k,hnone,hgo2,hinv,hrf⟩:=Qm8 [0,1,2,3] (by intro j hj;simp only[List.mem_cons,List.not_mem_nil,or_false]at hj;show j < 4;omega) hi
 have hnone:∀m,k<=m->ou' m=none:=hnone
 have hk0:0 < k:=by
  rcases Nat.eq_zero_or_pos k with h|h
  ·obtain⟨_,_,_,_,_,_,h0⟩:=hpr.m0
   rw[hnone 0 (by omega)]at h0;cases h0
  ·exact h
 have hsub:∀i,isO i->toOs [0,1,2,3] k i=i:=fun i hi=>by cases i with|l q=>exact hi.elim|o q=>rfl
 have hnew:∀p,ouAdd ou' k whO (k+p)=whO[p]?:=fun p=>Q1e p
 have hi2:Inv Γ F w C2 ⟨4,[],ouAdd ou' k whO⟩:=hinv _ rfl fun i x hx=>by
  cases i with
  |l q=>cases hx
  |o q=>
   have hx':ouAdd ou' k whO q=some x:=hx
   rcases Nat.lt_or_ge q k with hq|hq
   ·rw[Q18 hq]at hx'
    exact⟨.o q,x,hx',rfl,(AObj.sub_f hsub x (hpr.ok q x hx')).symm⟩
   ·obtain⟨p,rfl⟩:∃p,q=k+p:=⟨q - k,by omega⟩
    rw[hnew]at hx'
    match p,hx' with
    |0,h=>cases h;exact⟨.l 0,_,rfl,rfl,rfl⟩
    |1,h=>cases h;exact⟨.l 1,_,rfl,rfl,rfl⟩
    |2,h=>cases h;exact⟨.l 2,_,rfl,rfl,rfl⟩
    |3,h=>cases h;exact⟨.l 3,_,rfl,rfl,rfl⟩
    |p+4,h=>cases h
 have hou2:OuOk (ouAdd ou' k whO):=fun q x hx=>by
  rcases Nat.lt_or_ge q k with hq|hq
  ·rw[Q18 hq]at hx
   exact hpr.ok q x hx
  ·obtain⟨p,rfl⟩:∃p,q=k+p:=⟨q - k,by omega⟩
   rw[hnew]at hx
   match p,hx with
   |0,h=>cases h;exact⟨trivial,trivial⟩
   |1,h=>cases h;exact⟨trivial,trivial,trivial,trivial⟩
   |2,h=>cases h;exact⟨trivial,trivial⟩
   |3,h=>cases h;exact⟨trivial,trivial⟩
   |p+4,h=>cases h
 have hr:RFs w C2 [.one (.ptr (.o k) 0),.one (.ptr (.o (k+1)) 0),.one (.ptr (.o (k+2)) 0),.one (.ptr (.o (k+3)) 0)] [y0,y1,y2,y3]:=
  ⟨y0,_,rfl,hrf (.one (.ptr (.l 0) 0)) y0 hy0,y1,_,rfl,hrf (.one (.ptr (.l 1) 0)) y1 hy1,y2,_,rfl,hrf (.one (.ptr (.l 2) 0)) y2 hy2,y3,_,rfl,hrf (.one (.ptr (.l 3) 0)) y3 hy3,rfl⟩
 have hc1:Chg isO w C2 w { C2 with nl:=0 }:=⟨fun _ _=>rfl,fun _ h=>h,fun i hp ho=>⟨by cases i with|l k=>cases hp|o k=>exact ho,rfl,rfl⟩⟩
 obtain⟨tc,ec,vc,kc,fu,fc,hm0⟩:=hpr.m0
 refine (Qhd (c:=c) (m:=m) hΓ hou2 hk0 ⟨tc,ec,vc,kc,fu,fc,by rw[Q18 hk0];exact hm0⟩ (hnew 0) (hnew 1) (hnew 2) (hnew 3) (Q25 w C2 (ouAdd ou' k whO)) w { C2 with nl:=0 } [y0,y1,y2,y3] rfl (hi2.forCallee hou2 hΓ) (RFs.chg hc1 _ _ ⟨trivial,trivial,trivial,trivial,trivial⟩ hr)).mono ?_
 rintro e u' w' ⟨hv,hset,C',ou3,hgo,h0,hi',hQ⟩
 obtain⟨hb1,hb2,hb3⟩:=hi2.back hgo h0 hi'
 obtain⟨ho3,r0,q1,q2,q3,q4⟩:=hQ
 refine⟨hv,hset,C2.behind C',[(4,.one (.ptr (.o (k+3)) 0)),(3,.one (.ptr (.o (k+2)) 0)),(2,.one (.ptr (.o (k+1)) 0))],⟨4,[],ou3⟩,hgo2.toO.trans hb1.toO,hb2,⟨hf.1,fun j x hj=>?_⟩,fun ds=>?_⟩
 ·match j,hj with
  |0,hj=>cases hj
  |1,hj=>cases hj
  |2,hj=>cases hj;obtain⟨u,hu,hr⟩:=hf.2 2 (.one (.ptr (.l 1) 0)) rfl;exact⟨u,hu,(hrf _ _ hr).ext hb1.chg⟩
  |3,hj=>cases hj;obtain⟨u,hu,hr⟩:=hf.2 3 (.one (.ptr (.l 2) 0)) rfl;exact⟨u,hu,(hrf _ _ hr).ext hb1.chg⟩
  |4,hj=>cases hj;obtain⟨u,hu,hr⟩:=hf.2 4 (.one (.ptr (.l 3) 0)) rfl;exact⟨u,hu,(hrf _ _ hr).ext hb1.chg⟩
  |j+5,hj=>cases hj
 ·have ha:aRes tab [(4,.one (.ptr (.o (k+3)) 0)),(3,.one (.ptr (.o (k+2)) 0)),(2,.one (.ptr (.o (k+1)) 0))] ⟨4,[],ou3⟩ Tryz.f23.results.toList=some (.tup [.agg [r0,int (rsOf (.trap c m)).fin,int (rsOf (.trap c m)).val],.one (int (rsOf (.trap c m)).steps),.one (int (rsOf (.trap c m)).err)]):=by
   show aRes tab _ _ [.cell 2 27,.cell 3 3,.cell 4 28]=_
   unfold aRes aResL
   rw[Q7d (T:=tab) (x:=.agg [r0,int (rsOf (.trap c m)).fin,int (rsOf (.trap c m)).val]) (σ:=⟨4,[],ou3⟩) (i:=.o (k+1)) rfl rfl rfl q1 rfl rfl]
   unfold aResL
   rw[Q7d (T:=tab) (x:=.one (int (rsOf (.trap c m)).steps)) (σ:=⟨4,[],ou3⟩) (i:=.o (k+2)) rfl rfl rfl q3 rfl rfl]
   unfold aResL
   rw[Q7d (T:=tab) (x:=.one (int (rsOf (.trap c m)).err)) (σ:=⟨4,[],ou3⟩) (i:=.o (k+3)) rfl rfl rfl q4 rfl rfl]
   rfl
  exact⟨_,_,ha,WkF.tup (.cons (.agg (.cons q2 (.cons (.refl _) (.cons (.refl _) .nil)))) (.cons (.refl _) (.cons (.refl _) .nil))),by simp,ho3,rfl⟩
section
variable {fu:Int}{ac:AC}
theorem Qgk(hΓ:∀g cs,(g,cs)∈Γ->idsL isO cs){ou:Outer}{r0:Rd}{kt0:Nat}(hrun:AFnP Tryz.prog Γ 50 [.one (.ptr (.o 0) 0)] ou (RunQ fu ac kt0 r0) (RunP r0)):
  AFn Tryz.prog Γ 23 [.one (.ptr (.o 0) 0)] ou (fun r _=>r=resF (rsOf r0)):=by
 refine AFn.ofDeferP (gd:=49) (d5:=5) (d6:=6) (d7:=7) (d8:=8) (first:=[]) (caps:=[.ptr (.l 0) 0,.ptr (.l 1) 0,.ptr (.l 2) 0,.ptr (.l 3) 0]) (fr1:=[(4,.one (.ptr (.l 3) 0)),(3,.one (.ptr (.l 2) 0)),(2,.one (.ptr (.l 1) 0)),(1,.one (.ptr (.l 0) 0)),(0,.one (.ptr (.o 0) 0))])
  (σ1 := whS ou) (v0 := .one (.ptr (.o 0) 0)) (us := [.one (.ptr (.o 0) 0)]) (Q1 := RunQ fu ac kt0 r0) (QP1 := RunP r0)
  tabOk hΓ Tryz.func23 rfl (by kernel_rfl) (by decide) ?_ rfl rfl (by decide) (AStep.ofOp tabOk rfl) rfl rfl rfl rfl rfl (by decide) (fun ds=>AStep.ofOp tabOk rfl) rfl rfl (by decide) rfl rfl rfl ⟨trivial,trivial⟩ (fun h=>h) hrun rfl rfl (by decide) ?_ ?_ ?_
 ·intro hou
  refine zA ?_
  exact⟨rfl,rfl,rfl⟩
 ·intro hou r ou' hq hri how
  cases r0 with
  |next m=>exact hq.elim
  |trap c m=>exact hq.elim
  |fuel=>
   obtain⟨rfl,_⟩:=hq
   refine⟨.one (.lit (.bool true)),fun ds=>⟨AStep.ofOp tabOk rfl,?_⟩⟩
   refine zA ?_
   exact AFn.fin' rfl (WkF.tup (.cons (.agg (.cons (.nilS 1) (.cons (.refl _) (.cons (.refl _) .nil)))) (.cons (.refl _) (.cons (.refl _) .nil)))) (by simp[resF,rsOf,Q2a]) how rfl
  |done mf vf=>
   obtain⟨rfl,hc,hk,H',nm',hM⟩:=hq
   refine⟨.one (.lit (.bool false)),fun ds=>⟨AStep.ofOp tabOk rfl,?_⟩⟩
   obtain⟨kt,tc,ec,vc,kc,hCR,hKR,h0⟩:=hM.ex
   rw[hc]at hCR
   cases hCR with
   |rt _ ec vc hv=>
    have hvi:=hv.ids
    have hoX:=h0.ouX
    rw[hoX]at how ⊢
    refine zA ?_
    refine ACode.drawSt tabOk 15 14 [(8,.one (int (lastV vf)))] _ follows (by kernel_rfl) rfl rfl (by kernel_rfl) rfl ?_ rfl rfl rfl rfl ?_ ?_ (AStep.ofStore tabOk rfl) ?_
    ·rfl
    ·exact⟨⟨_,rfl,AStep.callPure hΓ rfl rfl rfl ⟨hvi,trivial⟩ how (Qj5 hv)⟩,trivial⟩
    ·exact⟨⟨_,rfl,AStep.callPure hΓ rfl rfl rfl ⟨hvi,trivial⟩ how (Qj5 hv)⟩,trivial⟩
    refine zA ?_
    exact AFn.fin' rfl (WkF.tup (.cons (.agg (.cons (.gsE rfl) (.cons (.refl _) (.cons (.refl _) .nil)))) (.cons (.refl _) (.cons (.refl _) .nil)))) (by simp[resF,rsOf]) how rfl
 ·intro us w
  refine⟨?_,fun hs=>?_⟩
  ·simp[callFunc,Tryz.func49,Tryz.f49]
  ·obtain⟨l⟩:=us
   match l,hs with
   |[a,b,c,d],_=>exact idle_ok a b c d w
 ·intro hou ps ou' hq how
  obtain⟨c,m,rfl,rfl,hpr⟩:=hq
  exact Qmm hΓ hpr c
end
end Go.Proofs.YtkgjldchcbfpnaaGreatDoor
namespace Go.CoreX
theorem adj_pw:∀{l:List Int},(∀i,0 < i->i < l.length->l.getD (i - 1) 0 < l.getD i 0)->l.Pairwise (· < ·)
 |[],_=>.nil
 |a::l,h=>by
  have ih:l.Pairwise (· < ·):=adj_pw fun i hi hl=>by
   have:=h (i+1) (by omega) (by simp;omega)
   obtain⟨j,rfl⟩:∃j,i=j+1:=⟨i - 1,by omega⟩
   simpa using this
  refine List.pairwise_cons.2 ⟨fun b hb=>?_,ih⟩
  match l,hb,h,ih with
  |c::l,hb,h,ih=>
   have h0:a < c:=by simpa using h 1 (by omega) (by simp)
   rcases List.mem_cons.1 hb with rfl|hb
   ·exact h0
   ·exact Int.lt_trans h0 ((List.pairwise_cons.1 ih).1 b hb)
structure NodeU (l:Lab):Prop where
 sh:shpQ l
 bl:l.binds.length<=1048576
 al:l.alts.length<=1048576
 ab:∀a∈l.alts,a.binds.length<=1048576
 kl:l.ops.length<=1048576
 wd:l.op=1->-1073741824<=l.n/\l.n<=1073741823
 rc:l.op=5->∀i,i < l.binds.length->l.ops[i]?=some 2
 sl:l.op=16->0<=l.n
 rb:l.op=9->rowOk l.binds
 rn:l.op=11->0<=l.n/\l.n < 1048576
theorem Qaw{e:List Ex}{x:Ex}(h:Q14 e x=0):shape x=true/\between x.n (lowN x.op) (highN x.op)=true/\x.binds.all Q2i=true/\(List.range x.binds.length).any (Q1q e x)=false:=by
 unfold Q14 at h
 split at h
 ·cases h
 rename_i h1
 split at h
 ·rename_i h2;exact absurd h h2
 rename_i h2
 split at h
 ·cases h
 rename_i h3
 have h2':ranges x=0:=by simpa using h2
 unfold ranges at h2'
 split at h2'
 ·cases h2'
 rename_i h4
 split at h2'
 ·cases h2'
 rename_i h5
 exact⟨by simpa using h1,by simpa using h4,by simpa using h5,by simpa using h3⟩
theorem Q3w{flat:Bool}{e:List Ex}{x:Ex}(h:Q0r flat e x=0):((flat&&Q5e x.op)||(!flat&&Q3s x.op))=false/\Q14 e x=0:=by
 unfold Q0r at h
 split at h
 ·cases h
 ·rename_i h1;exact⟨by simpa using h1,h⟩
end Go.CoreX
namespace Go.Proofs.YtkgjldchcbfpnaaGreatDoor
open Go Go.Abs Go.CoreX
theorem nodeU{e:List Ex}(ht:IsTree e)(he:okB e){x:Ex}(hx:x∈e)(hn:Q14 e x=0):NodeU (labE e x):=by
 obtain⟨h1,h2,h3,h4⟩:=Qaw hn
 have hsz:=he.eo.x x hx
 have hbt:lowN x.op<=x.n/\x.n<=highN x.op:=by simpa[between]using h2
 have hid:∀y∈x.binds,0<=y/\y < 1048576:=fun y hy=>by
  have:=List.all_eq_true.1 h3 y hy
  simp[Q2i,between]at this
  omega
 have hbb:∀i,i < x.binds.length->Q1q e x i=false:=fun i hi=>by
  have:=List.any_eq_false.1 h4 i (List.mem_range.2 hi)
  simpa using this
 refine⟨⟨⟨x.kids,by simp[labE],h1⟩⟩,hsz.b,hsz.a,hsz.ab,by simpa[labE]using hsz.k,fun h=>?_,fun h5 i hi=>?_,fun h=>?_,fun h=>⟨adj_pw fun i h0 hi=>?_,hid⟩,fun h=>?_⟩
 ·have h:x.op=1:=h
  rw[h]at hbt;simpa[lowN,highN,labE]using hbt
 ·simp only[labE]at h5 hi ⊢
  have h6:=hbb i hi
  simp only[Q1q,Bool.or_eq_false_iff]at h6
  have h6:=h6.1
  have hkl:x.kids.length=x.binds.length+1:=by
   have:ShN 5 x.n x.binds x.kids.length x.alts:=⟨⟨x.kids,rfl,by rw[←h5];exact h1⟩⟩
   exact this.recs.1
  have hil:i < x.kids.length:=by omega
  have hkk:=Qdt ht.k hx _ (List.getElem_mem hil)
  have h7:x.kids.getD i 0=x.kids[i]:=by rw[List.getD_eq_getElem?_getD,List.getElem?_eq_getElem hil];rfl
  rw[h7]at h6
  rw[List.getElem?_map,List.getElem?_eq_getElem hil,Option.map_some,Qiy e _ (by omega)]
  simpa[h5]using h6
 ·have h:x.op=16:=h
  rw[h]at hbt;exact hbt.1
 ·have h:x.op=9:=h
  have h6:=hbb i hi
  simp only[Q1q,Bool.or_eq_false_iff]at h6
  have h7:=h6.2
  simp[h]at h7
  have:=h7 h0
  simp only[labE]
  rw[List.getD_eq_getElem?_getD,List.getD_eq_getElem?_getD]
  exact this
 ·have h:x.op=11:=h
  rw[h]at hbt
  have:=hbt.1;have h8:=hbt.2
  simp[lowN,highN,labE]at *
  omega
theorem Qha{e:List Ex}(h:check e=0)(he:okB e){hi:Bool}(hh:∀x∈e,x.op=12∨x.op=13->hi=true)(fns:List Fun):allT (FragU fns hi) (grow e):=by
 have ht:=Q1a h
 refine Q50 ht fun x hx=>?_
 obtain⟨h1,h2⟩:=Q3w ((Q2j h).2.1 x hx)
 have N:=nodeU ht he hx h2
 have hno:¬(x.op=14∨x.op=15∨x.op=16):=fun h=>by simp[Q3s]at h1;omega
 exact⟨N.sh,hh x hx,N.bl,N.al,N.ab,N.kl,N.wd,N.rc,fun h=>absurd (show x.op=14∨x.op=15∨x.op=16 from h.elim .inl fun h=>.inr (.inl h)) hno,fun h=>absurd (show x.op=14∨x.op=15∨x.op=16 from .inl h) hno,N.sl,N.rb,N.rn⟩
theorem RunInv.no{fu:Int}{fns:List Fun}(hf:FnsU fns false):RunInv fu fns (false=true) (gM (GU fns false)) where
 st:=fun m m' h hr=>Qap (GUok hf) h hr
 fr:=fun h=>by cases h
 pf:=fun m h v f k hc hk h12=>by
  have hg:=h.k
  rw[hk]at hg
  have F:FragU fns false ⟨f.t.op,f.t.n,f.t.binds,f.t.kids.map Tr.op,f.t.alts⟩:=Q10 (gF_iff.1 hg.1).1
  have:=F.op (.inl h12)
  cases this
theorem Qe0{fns:List Fun}{hi:Bool}{t:Tr}(h:allT (FragU fns hi) t):gM (GU fns hi) (initM t):=⟨⟨h,trivial⟩,trivial,fun r hr=>by cases hr⟩
theorem Qfz{fu:Int}{fns:List Fun}{m:Ms}{R:Rs}(h:EndsM fu fns m R):∃g r,goX fu fns g m=some r/\rsOf r=R:=by
 obtain⟨g,hg⟩:=h
 rw[Qdy]at hg
 cases hx:goX fu fns g m with
 |none=>rw[hx]at hg;cases hg
 |some r=>rw[hx]at hg;exact⟨g,r,hx,Option.some.inj hg⟩
theorem Qn3(t:Tr)(fu:Int)(ac:AC)(ha:ac.ids isO):MR fu ⟨ac,1⟩ (ouOf [.cells (mC (.box (cTr t)) nilPE (.lit .nilIface) nilPE [] 0 fu ⟨ac,1⟩),.tok 3 1 0]) (fun _=>none) [] (initM t):=by
 refine⟨⟨1,_,_,_,_,.ev t .nil nilPE (.lit .nilIface) .nil,.nil,⟨⟨by simp,trivial,trivial,trivial⟩,rfl,⟨fun k cs hk=>(by cases hk),fun k o hk=>?_,rfl,fun a k n h=>(by simp at h),fun a k n h=>rfl,fun a b k n n' h=>(by simp at h),⟨rfl,fun a k n h=>(by simp at h)⟩,fun cs hc es i hi=>?_,fun k o hk=>?_⟩⟩⟩⟩
 ·match k,hk with
  |0,hk=>cases hk;exact⟨by simp,trivial,trivial,trivial,⟨trivial,trivial⟩,trivial,trivial,ha,trivial⟩
  |1,hk=>cases hk;trivial
  |k+2,hk=>simp[ouOf]at hk
 ·cases hc
  cases hi
  exact⟨1,rfl,Nat.le_refl _,rfl,rfl,fun a k n h=>by simp at h⟩
 ·match k,hk with
  |0,hk=>cases hk;trivial
  |1,hk=>cases hk;trivial
  |k+2,hk=>simp[ouOf]at hk
theorem Qbr{fns:List Fun}{hi:Bool}{fu:Int}(hf:FnsU fns hi)(hfu:1<=fu/\fu<=1000000)(hm:MoreU fns hi fu (.sl 2 (fns.map cFun)) Γc){t:Tr}(ht:allT (FragU fns hi) t){I:Ms->Prop}(hI:RunInv fu fns (hi=true) I)(hi0:I (initM t)){R:Rs}(hR:EndsM fu fns (initM t) R):
  AFn Tryz.prog Γc 23 [.one (.ptr (.o 0) 0)] (ouOf [.cells (mC (.box (cTr t)) nilPE (.lit .nilIface) nilPE [] 0 fu ⟨.sl 2 (fns.map cFun),1⟩),.tok 3 1 0]) (fun r ou'=>r=resF R/\ou'=ouOf [.dead,.dead]):=by
 obtain⟨g,r0,hg,rfl⟩:=Qfz hR
 have hac:(AC.sl 2 (fns.map cFun)).ids isO:=by show idsS isO _;simp
 have hkc:=kidU hΓc hf (show 0<=fu/\fu<=1000000 by omega) hm
 have hsc:=startU hΓc hf hkc
 have hrun:=Qlg hΓc hac (GUok hf) (fun t ht=>GUopn ht) hkc hsc hI (Qn3 t fu _ hac) (Qe0 ht) hg hi0 (by simp[initM]) (show 0<=fu/\fu<=1000000 by omega) (by simp[initM];omega)
 refine AFn.forgetD (AFn.mono (Qgk hΓc hrun) fun r ou' hq=>⟨ouOf [.dead,.dead],fun m o hmo=>?_,hq,rfl⟩)
 match m,hmo with
 |0,hmo=>cases hmo;exact .inr ⟨rfl,_,rfl⟩
 |1,hmo=>cases hmo;exact .inr ⟨rfl,_,rfl⟩
 |m+2,hmo=>simp[ouOf]at hmo
theorem Q45(R:Rs)(p:Abs.Id->Prop):(resF R).ids p:=by simp[resF]
theorem Run_gen{hi:Bool}{fu:Int}{e:List Ex}(he:okB e)(hchk:check e=0)(hfu:1<=fu/\fu<=1000000)(hm:MoreU [] hi fu (.sl 2 []) Γc)(hf:allT (FragU [] hi) (grow e)){I:Ms->Prop}(hI:RunInv fu [] (hi=true) I)(hi0:I (initM (grow e))):
  APure Tryz.prog Γc 12 [.one (.sl 5 (e.map cEx)),.one (int fu)] (resF (evalT (grow e) fu)):=by
 have t1:=Q1a hchk
 have c1:=Qbq e he
 rw[hchk]at c1
 have hwh:=Qbr (fns:=[]) (hi:=hi) ⟨fun f h=>(by cases h),fun f h=>(by cases h)⟩ hfu hm hf hI hi0 (Q77 (grow e) (by omega))
 intro ou
 refine AFn.walk 30 tabOk Tryz.func12 rfl (by kernel_rfl) rfl rfl fun hou=>?_
 refine zA ?_
 refine zca hΓc c1 hou ?_
 refine zA ?_
 have hf1:decide (fu < 1)=false:=by simp;omega
 refine AOps.wk 16 rfl (y:=.one (.lit (.bool false))) (.ofEq (by show FV.one (.lit (.bool (decide (fu < 1))))=_;rw[hf1])) ?_
 refine zM ?_
 refine ACode.cond rfl (fun hb=>absurd (show 1000000 < fu by simpa using hb) (by omega)) (fun _=>?_)
 refine zM ?_
 refine zca hΓc (Qbo hΓc e he.eo t1.k t1.ne) hou ?_
 repeat ((fail_if_success ((with_reducible refine oj ?_);refine AOps.atDst 26 rfl ?_));first|refine zO ?_)
 refine AOps.growO 1 4 3 1 rfl rfl ?_
 refine AOps.wkObj (.l 1) rfl (cs':=[.box (cTr (grow e)),nilPE,.lit .nilIface,nilPE,.gs 1 [] (.l 2),int 0,int fu,.sl 2 []]) (fun w C xs h=>?_) ?_
 ·exact (show WkL _ _ from .cons (.refl _) (.cons (.refl _) (.cons (.refl _) (.cons (.refl _) (.cons (.refl _) (.cons (.refl _) (.cons (.refl _) (.cons (.nilS 2) .nil)))))))) w C xs h
 refine AOps.callR [.l 1,.l 2] [.one (.ptr (.o 0) 0)] [.cells (mC (.box (cTr (grow e))) nilPE (.lit .nilIface) nilPE [] 0 fu ⟨.sl 2 [],1⟩),.tok 3 1 0] hΓcF rfl rfl rfl rfl rfl rfl ?_ ?_ ?_ ?_ ?_ hwh ?_
 ·rfl
 ·simp[inO]
 ·simp
 ·refine⟨?_,rfl,trivial⟩
  simp only[AObj.sub,mC,subL,AC.sub,nameOf,List.map_nil,subS]
  rw[Q26 _ _ (by simp)]
  rfl
 ·simp[inO,mC]
 intro r ou' hq
 obtain⟨rfl,rfl⟩:=hq
 refine⟨[.dead,.dead],rfl,rfl,by simp,Q45 _ _,?_⟩
 rw[show FV.sub (nameOf [.l 1,.l 2]) (resF (evalT (grow e) fu))=resF (evalT (grow e) fu)from FV.sub_pure _ _ (Q45 _ _)]
 refine zA ?_
 exact APure.fin rfl (WkF.ofEq rfl) (Q45 _ _) hou rfl
theorem RunE_ok{e:List Ex}(he:okB e)(hnp:∀x∈e,¬(x.op=12∨x.op=13))(fu:Int):APure Tryz.prog Γc 12 [.one (.sl 5 (e.map cEx)),.one (int fu)] (resF (evalE e fu)):=by
 have c1:=Qbq e he
 by_cases hc:check e=0
 ·by_cases hfu:1<=fu/\fu<=1000000
  ·have hf:=Qha hc he (hi:=false) (fun x hx h=>absurd h (hnp x hx)) []
   have hR:evalE e fu=evalT (grow e) fu:=by
    unfold evalE
    rw[if_neg (by simpa using hc),if_neg (by omega)]
   rw[hR]
   exact Run_gen he hc hfu MoreU.no hf (RunInv.no ⟨fun f h=>(by cases h),fun f h=>(by cases h)⟩) (Qe0 hf)
  ·have hR:evalE e fu={ Q2a with err:=4 }:=by
    unfold evalE
    rw[if_neg (by simpa using hc),if_pos (by omega)]
   rw[hR]
   rw[hc]at c1
   intro ou
   refine AFn.walk 30 tabOk Tryz.func12 rfl (by kernel_rfl) rfl rfl fun hou=>?_
   refine zA ?_
   refine zca hΓc c1 hou ?_
   refine zA ?_
   by_cases h1:fu < 1
   ·have hf1:decide (fu < 1)=true:=by simpa using h1
    refine AOps.wk 16 rfl (y:=.one (.lit (.bool true))) (.ofEq (by show FV.one (.lit (.bool (decide (fu < 1))))=_;rw[hf1])) ?_
    refine zM ?_
    exact APure.fin rfl (WkF.tup (.cons (.agg (.cons (.nilS 1) (.cons (.refl _) (.cons (.refl _) .nil)))) (.cons (.refl _) (.cons (.refl _) .nil)))) (by simp[resF,Q2a]) hou rfl
   ·have hf1:decide (fu < 1)=false:=by simpa using h1
    refine AOps.wk 16 rfl (y:=.one (.lit (.bool false))) (.ofEq (by show FV.one (.lit (.bool (decide (fu < 1))))=_;rw[hf1])) ?_
    refine zM ?_
    refine ACode.cond rfl (fun _=>?_) (fun hb=>absurd (show ¬1000000 < fu by simpa using hb) (by omega))
    refine zM ?_
    exact APure.fin rfl (WkF.tup (.cons (.agg (.cons (.nilS 1) (.cons (.refl _) (.cons (.refl _) .nil)))) (.cons (.refl _) (.cons (.refl _) .nil)))) (by simp[resF,Q2a]) hou rfl
 ·have hR:evalE e fu={ Q2a with err:=check e }:=by
   unfold evalE
   rw[if_pos (by simpa using hc)]
  rw[hR]
  intro ou
  refine AFn.walk 30 tabOk Tryz.func12 rfl (by kernel_rfl) rfl rfl fun hou=>?_
  refine zA ?_
  refine zca hΓc c1 hou ?_
  refine zA ?_
  refine ACode.cond rfl (fun _=>?_) (fun hb=>absurd (show check e=0 by simpa using hb) hc)
  refine zM ?_
  exact APure.fin rfl (WkF.tup (.cons (.agg (.cons (.nilS 1) (.cons (.refl _) (.cons (.refl _) .nil)))) (.cons (.refl _) (.cons (.refl _) .nil)))) (by simp[resF,Q2a]) hou rfl
theorem Q8p{fu:Int}{fns:List Fun}:∀{g:Nat}{m:Ms}{r:Rd},goX fu fns g m=some r->m.out.length<=1000->(rsOf r).out.length<=1048576
 |0,_,_,h,_=>by cases h
 |g+1,m,r,h,hm=>by
  simp only[goX]at h
  cases hr:Q0i fu fns m with
  |next m'=>rw[hr]at h;exact Q8p h (Q9i hr hm)
  |done m' v=>
   rw[hr]at h;cases h
   obtain⟨_,hd⟩:=Qie hr
   obtain⟨rfl,_⟩:=hd m' v rfl
   show m'.out.length<=_;omega
  |fuel=>rw[hr]at h;cases h;simp[rsOf,Q2a]
  |trap c m'=>
   rw[hr]at h;cases h
   have hmo:m'.out=m.out:=by
    unfold Q0i at hr
    repeat' split at hr
    all_goals try (cases hr;done)
    all_goals (cases hr;rfl)
   simp only[rsOf]
   split
   ·simp[Q2a]
   ·show m'.out.length<=_;rw[hmo];omega
def resA (R:Rs):FV:=.agg [.sl 1 (R.out.map cI),int R.fin,int R.val]
theorem Qeh(a b:Rs)(ha:a.out.length<=1048576):APure Tryz.prog Γc 9 [resA a,resA b] (.one (.lit (.bool (decide (a.fin=b.fin)&&decide (a.val=b.val)&&(a.out==b.out))))):=by
 have hs:=Qei hΓc a.out b.out ha
 intro ou
 refine AFn.walk 24 tabOk Tryz.func9 rfl (by kernel_rfl) rfl rfl fun hou=>?_
 refine zM ?_
 by_cases h1:a.fin=b.fin
 ·refine AOps.wk 10 rfl (y:=.one (.lit (.bool true))) (.ofEq (by simp[h1])) ?_
  refine zM ?_
  by_cases h2:a.val=b.val
  ·refine AOps.wk 17 rfl (y:=.one (.lit (.bool true))) (.ofEq (by simp[h2])) ?_
   refine zM ?_
   refine zca hΓc hs hou ?_
   refine zM ?_
   exact APure.fin rfl (WkF.ofEq (by simp[h1,h2])) (by simp) hou rfl
  ·refine AOps.wk 17 rfl (y:=.one (.lit (.bool false))) (.ofEq (by simp[h2])) ?_
   refine zM ?_
   exact APure.fin rfl (WkF.ofEq (by simp[h1,h2])) (by simp) hou rfl
 ·refine AOps.wk 10 rfl (y:=.one (.lit (.bool false))) (.ofEq (by simp[h1])) ?_
  refine zM ?_
  exact APure.fin rfl (WkF.ofEq (by simp[h1])) (by simp) hou rfl
theorem Qlh{e:List Ex}{R:Rs}(hR:APure Tryz.prog Γc 12 [.one (.sl 5 (e.map cEx)),.one (int 3000)] (resF R)):APure Tryz.prog Γc 15 [.one (.sl 5 (e.map cEx))] (.tup [resA R,.one (.lit (.bool (decide (R.err=0))))]):=by
 intro ou
 refine AFn.walk 16 tabOk Tryz.func15 rfl (by kernel_rfl) rfl rfl fun hou=>?_
 refine zM ?_
 refine zca hΓc hR hou ?_
 refine zM ?_
 exact APure.fin rfl (WkF.ofEq rfl) (by simp[resA]) hou rfl
theorem Qh7{fs:List FnD}{f:FnD}(h:FnOkD fs f):∀x∈f.body,Q14 f.body x=0/\¬(x.op=2∨x.op=5∨x.op=12∨x.op=13):=by
 have hz:∀x∈f.body,Q0r true f.body x=0:=(Q21 _ _).1 (by
  have h:=h.b
  unfold body at h
  split at h
  ·rename_i h0;exact absurd h h0
  split at h
  ·rename_i h0;exact absurd h h0
  ·rename_i h0;simpa using h0)
 intro x hx
 obtain⟨h1,h2⟩:=Q3w (hz x hx)
 exact⟨h2,fun h=>by simp[Q5e]at h1;omega⟩
theorem Q9x{fs:List FnD}{f:FnD}(h:FnOkD fs f):allT (FragU (funsD fs) false) (grow f.body):=by
 have ht:=Q1a h.b
 refine Q50 ht fun x hx=>?_
 obtain⟨h2,hno⟩:=Qh7 h x hx
 have N:=nodeU ht h.okb hx h2
 refine⟨N.sh,fun h=>absurd (.inr (.inr h)) hno,N.bl,N.al,N.ab,N.kl,N.wd,N.rc,fun ho=>?_,fun ho=>?_,N.sl,N.rb,N.rn⟩
 ·obtain⟨i,g,hn,hg,_,_⟩:=h.c x hx ho
  show 0<=x.n/\x.n < ((funsD fs).length:Int)
  rw[hn,Qcl]
  have:=(List.getElem?_eq_some_iff.1 hg).1
  omega
 ·obtain⟨i,g,hn,hg,hk,_⟩:=h.c x hx (.inl ho)
  show ((funsD fs).getD x.n.toNat ⟨[],default⟩).params.length=(labE f.body x).ops.length
  rw[hn,Int.toNat_natCast,List.getD_eq_getElem?_getD,funsD,List.getElem?_map,hg]
  simp[funD,labE,hk ho]
theorem PrgOk.fnsU{fs:List FnD}{main:Nat}(h:PrgOk fs main):FnsU (funsD fs) false where
 b:=fun g hg=>by
  obtain⟨f,hf,rfl⟩:=List.mem_map.1 hg
  exact Q9x (h.b f hf)
 p:=fun g hg=>by
  obtain⟨f,hf,rfl⟩:=List.mem_map.1 hg
  have:=(h.b f hf).pl
  show f.params.length<=1048576
  omega
theorem Qd7{fu:Int}{fs:List FnD}{main:Nat}(h:PrgOk fs main)(hfu:1<=fu/\fu<=1000000){f0:FnD}(hf0:fs[main]?=some f0){R:Rs}(hR:EndsM fu (funsD fs) (initM (grow f0.body)) R):
  APure Tryz.prog Γc 18 [.agg [.sl 3 (fs.map encF),int (main:Int)],.one (int fu)] (resF R):=by
 have hfl:=h.l
 have hfr:=Q9x (h.b f0 (List.mem_of_getElem? hf0))
 have hwh:=Qbr h.fnsU hfu MoreU.no hfr (RunInv.no h.fnsU) (Qe0 hfr) hR
 intro ou
 refine AFn.walk 53 tabOk Tryz.func18 rfl (by kernel_rfl) rfl rfl fun hou=>?_
 refine zA ?_
 refine ACode.grow 2 7 97 2 rfl rfl ?_
 refine ACode.loopR hΓc (α:=Nat) (fun j=>[(16,.one (int j)),(15,.one (int (fs.map encF).length)),(14,.one (.sl 3 (fs.map encF))),(7,.one (.ptr (.l 2) 0)),(4,.one (.ptr (.l 1) 0)),(2,.one (.ptr (.l 0) 0)),(6,.one (int 0)),(5,.one (int 0))])
  (fun j=>⟨4,[(3,.tok 97 2 j),(2,.cells [nilPE,nilPE,.lit .nilIface,nilPE,nilS,int 0,int fu,.gs 2 ((funsD (fs.take j)).map cFun) (.l 3)]),(1,.cells [nilS,int 0,int 0]),(0,.cells [.sl 3 (fs.map encF),int (main:Int)])],ou⟩) (fun m j=>j<=fs.length/\m=fs.length - j) (a0:=0) (ρ:=_root_.id) ⟨by omega,rfl⟩
  (LessR.of rfl zFS (by simp) ?_ rfl rfl hou) fun m j hj=>?_
 ·repeat' first|exact LoSub.nil|refine zlc ?_|refine zld ?_ ?_|rfl
  all_goals (simp[AObj.ren,renL,AC.ren];rfl)
 obtain⟨hjl,rfl⟩:=hj
 refine zA ?_
 refine ACode.cond rfl (fun hb2=>?_) (fun hb2=>?_)
 ·have hlt:j < fs.length:=by simpa using hb2
  obtain⟨x,hx⟩:=Q01 hlt
  have hxb:=h.b x (List.mem_of_getElem? hx)
  have t1:=Q1a hxb.b
  have hgr:=Qbo hΓc x.body hxb.okb.eo t1.k t1.ne
  have hjl2:((funsD (fs.take j)).map cFun).length=j:=by simp[Qcl];omega
  refine zA ?_
  refine zS (zIA rfl rfl rfl (by omega) (Q06 hx)) ?_
  refine zA ?_
  refine ACode.drawXH (va:=.one (.gs 2 ((funsD (fs.take j)).map cFun++[cFun (funD x)]) (.l 5))) (σ1:=((((St.mk 4 [(3,.tok 97 2 j),(2,.cells [nilPE,nilPE,.lit .nilIface,nilPE,nilS,int 0,int fu,.gs 2 ((funsD (fs.take j)).map cFun) (.l 3)]),(1,.cells [nilS,int 0,int 0]),(0,.cells [.sl 3 (fs.map encF),int (main:Int)])] ou).push (.cells (ti36.zero.map .lit))).set (.l 4) (.cells (encF x))).set (.l 3) .dead).push (.tok 97 2 ((funsD (fs.take j)).map cFun++[cFun (funD x)]).length))
   tabOk 13 12 [(9,.one (.box (cTr (grow x.body))))] follows (by kernel_rfl) rfl rfl rfl rfl rfl rfl rfl ?_ ?_ ?_ ?_
  ·refine HStep.plain rfl (AStep.append (s:=2) (es:=(funsD (fs.take j)).map cFun) (news:=[cFun (funD x)]) (ti:=ti70) (σ:=((St.mk 4 [(3,.tok 97 2 j),(2,.cells [nilPE,nilPE,.lit .nilIface,nilPE,nilS,int 0,int fu,.gs 2 ((funsD (fs.take j)).map cFun) (.l 3)]),(1,.cells [nilS,int 0,int 0]),(0,.cells [.sl 3 (fs.map encF),int (main:Int)])] ou).push (.cells (ti36.zero.map .lit))).set (.l 4) (.cells (encF x))) tabOk rfl rfl rfl rfl rfl rfl (Base.gs' _ 97 2 ((funsD (fs.take j)).map cFun) (.l 3) rfl hjl2.symm) (.sl _ _) rfl ?_ ?_)
   ·rw[hjl2];show (j+1) * 32<=_;omega
   ·rw[hjl2];show j+1<=_;omega
  ·exact .call hΓc hgr hou (by simp) rfl rfl rfl rfl rfl rfl .nil
  ·exact .call hΓc hgr hou (by simp) rfl rfl rfl rfl rfl rfl .nil
  refine zM ?_
  refine cInv ⟨fs.length - (j+1),j+1,fun k=>if k=3 then 5 else k,by omega,⟨by omega,rfl⟩,LessR.of rfl zFS (by simp) ?_ rfl rfl hou⟩
  repeat' first|exact LoSub.nil|refine zlc ?_|refine zld ?_ ?_|rfl
  ·simp only[AObj.ren,List.length_append,hjl2];rfl
  ·rw[Qh4 hx];simp only[AObj.ren,renL,AC.ren,Qig];rw[List.map_append];rfl
 have hlt:j=fs.length:=by simp at hb2;omega
 subst hlt
 rw[List.take_length]
 refine zA ?_
 refine ACode.wkObj (.l 2) rfl (cs':=[nilPE,nilPE,.lit .nilIface,nilPE,nilS,int 0,int fu,.sl 2 ((funsD fs).map cFun)]) (fun w C xs h=>(show WkL _ _ from .cons (.refl _) (.cons (.refl _) (.cons (.refl _) (.cons (.refl _) (.cons (.refl _) (.cons (.refl _) (.cons (.refl _) (.cons (.gsE rfl) .nil)))))))) w C xs h) ?_
 refine ACode.drawX tabOk 12 [(7,.one (.box (cFun (funD f0))))] follows (by kernel_rfl) rfl rfl rfl rfl ?_ ?_
 ·exact .step rfl (zHP (zIA rfl rfl rfl (Int.natCast_nonneg main) (Qmr hf0))) .nil
 repeat ((fail_if_success ((with_reducible refine oj ?_);refine AOps.atDst 49 rfl ?_));first|refine zO ?_)
 refine AOps.growO 2 4 3 1 rfl rfl ?_
 refine AOps.callR [.l 2,.l 4] [.one (.ptr (.o 0) 0)] [.cells (mC (.box (cTr (grow f0.body))) nilPE (.lit .nilIface) nilPE [] 0 fu ⟨.sl 2 ((funsD fs).map cFun),1⟩),.tok 3 1 0] hΓcF rfl rfl rfl rfl rfl rfl ?_ ?_ ?_ ?_ ?_ hwh ?_
 ·rfl
 ·simp[inO]
 ·simp
 ·refine⟨?_,rfl,trivial⟩
  simp only[AObj.sub,mC,subL,AC.sub,nameOf,List.map_nil,subS]
  rw[Q26 _ _ (by simp),Q87 _ _ (Q7t _ _)]
  rfl
 ·simp[inO,mC]
  exact Q7t _ _
 intro r ou' hq
 obtain⟨rfl,rfl⟩:=hq
 refine⟨[.dead,.dead],rfl,rfl,by simp,Q45 _ _,?_⟩
 rw[show FV.sub (nameOf [.l 2,.l 4]) (resF R)=resF R from FV.sub_pure _ _ (Q45 _ _)]
 refine zA ?_
 exact APure.fin rfl (WkF.ofEq rfl) (Q45 _ _) hou rfl
theorem Qcr{fu:Int}{fs:List FnD}{main:Nat}(h:PrgOk fs main)(hfu:1<=fu/\fu<=1000000){f0:FnD}(hf0:fs[main]?=some f0){R:Rs}(hR:EndsM fu (funsD fs) (initM (grow f0.body)) R):
  APure Tryz.prog Γc 7 [.agg [.sl 3 (fs.map encF),int (main:Int)],.one (int fu)] (resF R):=by
 intro ou
 refine AFn.walk 27 tabOk Tryz.func7 rfl (by kernel_rfl) rfl rfl fun hou=>?_
 refine zA ?_
 refine zca hΓc (Q8w fs main h) hou ?_
 refine zM ?_
 have hf1:decide (fu < 1)=false:=by simp;omega
 refine AOps.wk 16 rfl (y:=.one (.lit (.bool false))) (.ofEq (by show FV.one (.lit (.bool (decide (fu < 1))))=_;rw[hf1])) ?_
 refine zM ?_
 refine ACode.cond rfl (fun hb=>absurd (show 1000000 < fu by simpa using hb) (by omega)) (fun _=>?_)
 refine zM ?_
 refine zca hΓc (Qd7 h hfu hf0 hR) hou ?_
 refine zM ?_
 exact APure.fin rfl (WkF.ofEq rfl) (Q45 _ _) hou rfl
inductive CvR (fns:List Fun):Sc->Tr->Tr->Prop
 |var (s:Sc) (x:Int) (bs:List Int) (ks:List Tr) (al:List Alt):CvR fns s (.mk 0 x bs ks al) (varC s x)
 |lam (s:Sc) (x:Int) (bs:List Int) (ks:List Tr) (al:List Alt) (n:Nat) (needs:List Int) (self:Int) (bd:Tr)
   (hf:fns[n]?=some ⟨self::bs,bd⟩) (hs:self∉bndT (.mk 2 x bs ks al)) (hn:∀id∈Q0e (.mk 2 x bs ks al),id∈needs) (hm:∀id∈needs,id∈Q0e (.mk 2 x bs ks al))
   (hb:CvR fns (scF needs [] n self) (ks.getD 0 default) bd):CvR fns s (.mk 2 x bs ks al) (closC (n:Int) needs s)
 |rc (s:Sc) (x:Int) (bs:List Int) (ks:List Tr) (al:List Alt) (base:Nat) (needs:List Int) (selfs:Nat->Int) (bds:Nat->Tr) (body:Tr)
   (hf:∀i,i < bs.length->fns[base+i]?=some ⟨selfs i::(ks.getD i default).binds,bds i⟩)
   (hs:∀i,i < bs.length->selfs i∉bndT (.mk 5 x bs ks al))
   (hn:∀i,i < bs.length->∀id∈Q0e (ks.getD i default),id∈needs∨id∈bs)
   (hm:∀id∈needs,id∈Q0e (.mk 5 x bs ks al))
   (hb:∀i,i < bs.length->CvR fns (scF needs bs base (selfs i)) ((ks.getD i default).kids.getD 0 default) (bds i))
   (hl:CvR fns s (ks.getD bs.length default) body):CvR fns s (.mk 5 x bs ks al) (letsC base needs s bs bs.length body)
 |node (s:Sc) (o x:Int) (bs:List Int) (ks:List Tr) (al:List Alt) (x':Int) (ks':List Tr) (al':List Alt) (ho:¬(o=0∨o=2∨o=5)) (hx:o=4∨x'=x/\al'=al) (hl:ks'.length=ks.length)
   (hk:∀i,i < ks.length->CvR fns s (ks.getD i default) (ks'.getD i default)):CvR fns s (.mk o x bs ks al) (.mk o x' bs ks' al')

def Top (s:Sc):Prop:=∀id,s.pl id=none
structure FragK (l:Lab):Prop where
 sh:shpQ l
 rc:l.op=5->∀i,i < l.binds.length->l.ops[i]?=some 2
 no:¬(12<=l.op/\l.op<=16)
structure WfT (s:Sc)(t:Tr):Prop where
 fr:allT FragK t
 nd:(bndT t).Nodup
 di:∀id∈Q0e t,id∉bndT t
 nb:∀id∈bndT t,s.pl id=none
 se:Top s∨s.self∉bndT t
theorem Qd1{ks:List Tr}{t:Tr}(h:t∈ks){id:Int}(hi:id∈bndT t):id∈bndTs ks:=by
 induction ks with
 |nil=>cases h
 |cons a l ih=>
  simp only[bndTs,List.mem_append]
  rcases List.mem_cons.1 h with rfl|h
  ·exact .inl hi
  ·exact .inr (ih h)
theorem Qmv{ks:List Tr}{t:Tr}(h:t∈ks)(hn:(bndTs ks).Nodup):(bndT t).Nodup:=by
 induction ks with
 |nil=>cases h
 |cons a l ih=>
  simp only[bndTs]at hn
  rcases List.mem_cons.1 h with rfl|h
  ·exact (List.nodup_append.1 hn).1
  ·exact ih h (List.nodup_append.1 hn).2.1
theorem Qa7{o:Int}{b:List Int}{a:List Alt}{k:Int}{id:Int}(h:id∈Q0m o b a k):id∈Q09 o b a:=by
 unfold Q0m at h
 unfold Q09
 rw[List.mem_append]
 split at h
 ·rename_i h1
  left
  rw[if_pos (by rcases h1 with h1|h1|h1 <;> omega)]
  exact h
 split at h
 ·rename_i h1
  right
  have hl:(k - 1).toNat < a.length:=by omega
  rw[List.getD_eq_getElem?_getD,List.getElem?_eq_getElem hl]at h
  exact List.mem_flatMap.2 ⟨_,List.getElem_mem hl,h⟩
 ·cases h
theorem Q95{t:Tr}{id:Int}(h:id∈Q09 t.op t.binds t.alts):id∈bndT t:=by
 obtain⟨o,n,b,k,a⟩:=t
 simp only[bndT,List.mem_append]
 exact .inl h
theorem Q2h{t s:Tr}(h:s∈t.kids){id:Int}(hi:id∈bndT s):id∈bndT t:=by
 obtain⟨o,n,b,k,a⟩:=t
 simp only[bndT,List.mem_append]
 exact .inr (Qd1 h hi)
theorem Qbi{t s:Tr}(hn:(bndT t).Nodup)(h:s∈t.kids){id:Int}(hb:id∈Q09 t.op t.binds t.alts):id∉bndT s:=fun hi=>by
 obtain⟨o,n,b,k,a⟩:=t
 simp only[bndT]at hn
 exact (List.nodup_append.1 hn).2.2 id hb id (Qd1 h hi) rfl
theorem Q5b{t:Tr}{i:Nat}(hi:i < t.kids.length){id:Int}(h:id∈Q0e (t.kids.getD i default))(hb:id∉Q0m t.op t.binds t.alts (i:Int)):id∈Q0e t:=by
 obtain⟨o,n,b,k,a⟩:=t
 refine (Qk0 o n b k a id).2 (.inr ⟨i,_,?_,hb,h⟩)
 have hi:i < k.length:=hi
 show k[i]?=some (k.getD i default)
 rw[List.getD_eq_getElem?_getD,List.getElem?_eq_getElem hi];rfl
theorem WfT.kid{s:Sc}{t:Tr}(h:WfT s t){i:Nat}(hi:i < t.kids.length):WfT s (t.kids.getD i default) where
 fr:=Q2w h.fr hi
 nd:=by
  have h1:=h.nd
  have h2:=Q15 hi
  obtain⟨o,n,b,k,a⟩:=t
  simp only[bndT]at h1
  exact Qmv h2 (List.nodup_append.1 h1).2.1
 di:=fun id hf hb=>by
  by_cases h1:id∈Q0m t.op t.binds t.alts (i:Int)
  ·exact Qbi h.nd (Q15 hi) (Qa7 h1) hb
  ·exact h.di id (Q5b hi hf h1) (Q2h (Q15 hi) hb)
 nb:=fun id hb=>h.nb id (Q2h (Q15 hi) hb)
 se:=h.se.imp_right fun h1 h2=>h1 (Q2h (Q15 hi) h2)

theorem Q8i{l:List Int}{id:Int}:∀{n:Nat},n<=l.length->id∈l.take n->∃i,Q11 l id n=some i/\i < n
 |0,_,h=>by simp at h
 |n+1,hn,h=>by
  unfold Q11
  split
  ·exact⟨n,rfl,by omega⟩
  ·rename_i hne
   have hx:l[n]?=some l[n]:=List.getElem?_eq_getElem (by omega)
   rw[Q1b hx]at h
   rcases List.mem_append.1 h with h|h
   ·obtain⟨i,h1,h2⟩:=Q8i (by omega) h
    exact⟨i,h1,by omega⟩
   ·rw[List.mem_singleton.1 h]at hne
    rw[List.getD_eq_getElem?_getD,hx]at hne
    exact absurd rfl hne
theorem Q12{l:List Int}{id:Int}(h:id∉l):∀{n:Nat},n<=l.length->Q11 l id n=none
 |0,_=>rfl
 |n+1,hn=>by
  unfold Q11
  rw[if_neg]
  ·exact Q12 h (by omega)
  ·intro e
   rw[List.getD_eq_getElem?_getD,List.getElem?_eq_getElem (show n < l.length by omega)]at e
   exact h (e▸List.getElem_mem _)
theorem Q1y{l:List Int}{id:Int}(h:id∈l):∃i,Q11 l id l.length=some i/\i < l.length:=Q8i (Nat.le_refl _) (by rw[List.take_length];exact h)
theorem plN_at(needs:List Int)(id:Int):∀k,plN needs k id=Option.map (fun i:Nat=>((i:Int),(-1:Int))) (Q11 needs id k)
 |0=>rfl
 |k+1=>by
  simp only[plN,setF,Q11]
  split
  ·rfl
  ·exact plN_at needs id k
theorem plG_at(f:Int->Option (Int×Int))(group:List Int)(base:Nat)(id:Int):∀k,plG f group base k id=match Q11 group id k with
  |some i=>some (-1,((base+i:Nat):Int))
  |none=>f id
 |0=>rfl
 |k+1=>by
  simp only[plG,setF,Q11]
  split
  ·rfl
  ·exact plG_at f group base id k
theorem Qab(x:Int):∀(b:List Int)(l:List Vl)(e:En),allE e (b++[x]) l=.bind x (l.getD b.length .nil) (allE e b l)
 |[],l,e=>by cases l <;> simp[allE]
 |y::b,l,e=>by
  simp only[List.cons_append,allE,Qab x b]
  cases l <;> simp
theorem Qcp(id:Int)(bs:List Int)(l:List Vl)(e:En):∀k,k<=bs.length->findE id (allE e (bs.take k) l)=match Q11 bs id k with
  |some i=>l.getD i .nil
  |none=>findE id e
 |0,_=>rfl
 |k+1,h=>by
  have hx:bs[k]?=some bs[k]:=List.getElem?_eq_getElem (by omega)
  rw[Q1b hx,Qab]
  have hd:bs.getD k 0=bs[k]:=by rw[List.getD_eq_getElem?_getD,hx];rfl
  have hl:(bs.take k).length=k:=by simp;omega
  simp only[Q11,hd,findE,hl]
  by_cases he:bs[k]=id
  ·rw[if_pos he,if_pos he]
  ·rw[if_neg he,if_neg he]
   exact Qcp id bs l e k (by omega)
theorem Q35(id:Int)(bs:List Int)(l:List Vl)(e:En):findE id (allE e bs l)=match Q11 bs id bs.length with
  |some i=>l.getD i .nil
  |none=>findE id e:=by
 have:=Qcp id bs l e bs.length (Nat.le_refl _)
 rwa [List.take_length]at this

def slE (s:Sc)(e':En):List Vl:=match findE s.self e' with
 |.cap _ sl=>sl
 |_=>[]
def valC (s:Sc)(e':En)(id:Int):Vl:=match s.pl id with
 |none=>findE id e'
 |some (sl,fn)=>if 0<=fn then .cap fn (slE s e')else (slE s e').getD sl.toNat .nil
structure SlfE (s:Sc)(e':En):Prop where
 sf:Top s∨∃n sl,findE s.self e'=.cap n sl/\sl.length=s.many
 ok:∀id sl fn,s.pl id=some (sl,fn)->0<=fn∨(0<=sl/\sl < s.many)

section
variable {fu:Int}{fns:List Fun}
inductive Steps (fu:Int)(fns:List Fun):Ms->Ms->Prop
 |refl (m:Ms):Steps fu fns m m
 |step {m m1 m2:Ms}(h:Q0i fu fns m=.next m1) (k:Steps fu fns m1 m2):Steps fu fns m m2
theorem Steps.ends{m m1:Ms}(h:Steps fu fns m m1){R:Rs}(he:EndsM fu fns m1 R):EndsM fu fns m R:=by
 induction h with
 |refl=>exact he
 |step h _ ih=>exact (ih he).step h
def Wk' (fu:Int)(fns:List Fun)(m:Ms)(P:Ms->Prop):Prop:=(∃m1,Steps fu fns m m1/\P m1)∨EndsM fu fns m Q2a
theorem Wk'.here{m:Ms}{P:Ms->Prop}(h:P m):Wk' fu fns m P:=.inl ⟨m,.refl m,h⟩
theorem Wk'.next{m m1:Ms}{P:Ms->Prop}(h:Q0i fu fns m=.next m1)(k:Wk' fu fns m1 P):Wk' fu fns m P:=by
 rcases k with ⟨m2,h2,hp⟩|k
 ·exact .inl ⟨m2,.step h h2,hp⟩
 ·exact .inr (k.step h)
theorem Wk'.bind{m:Ms}{P Q:Ms->Prop}(h:Wk' fu fns m P)(k:∀m1,P m1->Wk' fu fns m1 Q):Wk' fu fns m Q:=by
 rcases h with ⟨m1,h1,hp⟩|h
 ·rcases k m1 hp with ⟨m2,h2,hq⟩|h2
  ·refine .inl ⟨m2,?_,hq⟩
   clear k hp
   induction h1 with
   |refl=>exact h2
   |step h _ ih=>exact .step h (ih h2)
  ·exact .inr (h1.ends h2)
 ·exact .inr h
theorem Wk'.ev{t:Tr}{e:En}{k:List Fm}{out:List Int}{st:Int}{hp:List (List Vl)}{m1:Ms}{P:Ms->Prop}(h:Q0l fu fns ⟨.ev t e,k,out,st+1,hp⟩ t e=.ok m1)(hk:Wk' fu fns m1 P):Wk' fu fns ⟨.ev t e,k,out,st,hp⟩ P:=by
 by_cases hs:st=fu
 ·exact .inr ⟨1,by simp[goM,Q0i,hs]⟩
 ·refine .next (m1:=m1) ?_ hk
  unfold Q0i
  simp only
  rw[if_neg hs,h]
theorem Wk'.rt{v:Vl}{f:Fm}{k:List Fm}{out:List Int}{st:Int}{hp:List (List Vl)}{m1:Ms}{P:Ms->Prop}(h:kidM fu fns ⟨.rt v,f::k,out,st,hp⟩ (.mk f.t f.e (f.done++[v])) k=.ok m1)(hk:Wk' fu fns m1 P):Wk' fu fns ⟨.rt v,f::k,out,st,hp⟩ P:=by
 refine .next (m1:=m1) ?_ hk
 unfold Q0i
 simp only
 rw[h]
def BigV (fu:Int)(fns:List Fun)(t:Tr)(e:En)(v:Vl):Prop:=∀k out st hp,Wk' fu fns ⟨.ev t e,k,out,st,hp⟩ fun m1=>∃st',m1=⟨.rt v,k,out,st',hp⟩
theorem Qkm(id:Int)(e:En):BigV fu fns (refT id) e (findE id e):=fun k out st hp=>
 .ev (m1:=⟨.rt (findE id e),k,out,st+1,hp⟩) (by simp[Q0l,refT,Tr.op,Tr.n]) (.here ⟨_,rfl⟩)
theorem Qgb{self i:Int}{e:En}{n:Int}{sl:List Vl}(h:findE self e=.cap n sl)(hi:0<=i/\i < sl.length):BigV fu fns (slotT self i) e (sl.getD i.toNat .nil):=fun k out st hp=>by
 refine .ev (m1:=⟨.ev (refT self) e,.mk (slotT self i) e []::k,out,st+1,hp⟩) (by simp[Q0l,kidM,slotT,Tr.op,opdN,Tr.kids]) ?_
 refine (Qkm self e _ out (st+1) hp).bind fun m1 ⟨st',e1⟩=>?_
 subst e1
 rw[h]
 refine .rt (m1:=⟨.rt (sl.getD i.toNat .nil),k,out,st',hp⟩) ?_ (.here ⟨_,rfl⟩)
 simp[kidM,slotT,Tr.op,opdN,Tr.kids,Tr.n,hi.2]
theorem Qgc{n:Int}{ks:List Tr}{e:En}{vs:List Vl}(hl:vs.length=ks.length)(h:∀i,i < ks.length->BigV fu fns (ks.getD i default) e (vs.getD i .nil)):BigV fu fns (.mk 15 n [] ks []) e (.cap n vs):=by
 intro k out st hp
 have key:∀r j,j+r=ks.length->∀(c:Ctl) (k0:List Fm) (st:Int) (m1:Ms),kidM fu fns ⟨c,k0,out,st,hp⟩ (.mk (.mk 15 n [] ks []) e (vs.take j)) k=.ok m1->Wk' fu fns m1 fun m1=>∃st',m1=⟨.rt (.cap n vs),k,out,st',hp⟩:=by
  intro r
  induction r with
  |zero=>
   intro j hj c k0 st m1 h1
   have hj:j=vs.length:=by omega
   subst hj
   rw[List.take_length]at h1
   simp[kidM,Tr.op,opdN,Tr.kids,Tr.n,hl]at h1
   subst h1
   exact .here ⟨_,rfl⟩
  |succ r ih=>
   intro j hj c k0 st m1 h1
   have hjl:j < ks.length:=by omega
   have htl:(vs.take j).length=j:=by simp;omega
   simp[kidM,Tr.op,opdN,Tr.kids,Tr.n,hjl,show j < vs.length by omega,Nat.min_eq_left (show j<=vs.length by omega)]at h1
   subst h1
   have hb:=h j hjl
   rw[List.getD_eq_getElem?_getD,List.getElem?_eq_getElem hjl]at hb
   refine (hb _ out st hp).bind fun m1 ⟨st',e1⟩=>?_
   subst e1
   have hx:vs[j]?=some (vs.getD j .nil):=by rw[List.getD_eq_getElem?_getD,List.getElem?_eq_getElem (by omega)];rfl
   have hts:vs.take (j+1)=vs.take j++[vs.getD j .nil]:=Q1b hx
   cases hk:kidM fu fns ⟨.rt (vs.getD j .nil),.mk (.mk 15 n [] ks []) e (vs.take j)::k,out,st',hp⟩ (.mk (.mk 15 n [] ks []) e (vs.take j++[vs.getD j .nil])) k with
   |ok m2=>
    refine .rt hk (ih (j+1) (by omega) (.rt (vs.getD j .nil)) (.mk (.mk 15 n [] ks []) e (vs.take j)::k) st' m2 ?_)
    rw[hts];exact hk
   |error c=>
    exfalso
    rw[←hts]at hk
    simp[kidM,Tr.op,opdN,Tr.kids]at hk
    split at hk <;> cases hk
 cases hk:kidM fu fns ⟨.ev (.mk 15 n [] ks []) e,k,out,st+1,hp⟩ (.mk (.mk 15 n [] ks []) e []) k with
 |ok m1=>
  refine .ev (m1:=m1) ?_ (key ks.length 0 (by omega) (.ev (.mk 15 n [] ks []) e) k (st+1) m1 ?_)
  ·simp[Q0l,Tr.op];exact hk
  ·simpa using hk
 |error c=>
  exfalso
  simp[kidM,Tr.op,opdN,Tr.kids]at hk
  split at hk <;> cases hk
theorem Q2z(self:Int):∀k,(Q2x self k).length=k
 |0=>rfl
 |k+1=>by simp[Q2x,Q2z self k]
theorem Q88(self:Int):∀{k i:Nat},i < k->(Q2x self k).getD i default=slotT self i
 |0,_,h=>by omega
 |k+1,i,h=>by
  simp only[Q2x]
  by_cases hi:i < k
  ·rw[List.getD_eq_getElem?_getD,List.getElem?_append_left (by rw[Q2z];exact hi),←List.getD_eq_getElem?_getD,Q88 self hi]
  ·have:i=k:=by omega
   subst this
   rw[List.getD_eq_getElem?_getD,List.getElem?_append_right (by rw[Q2z];omega),Q2z]
   simp
theorem Qkl{s:Sc}{e':En}(h:SlfE s e')(id:Int):BigV fu fns (varC s id) e' (valC s e' id):=by
 unfold varC valC
 cases hp:s.pl id with
 |none=>exact Qkm id e'
 |some q=>
  obtain⟨sl,fn⟩:=q
  simp only
  have hs:∃n l,findE s.self e'=.cap n l/\l.length=s.many:=h.sf.resolve_left fun ht=>by rw[ht id]at hp;cases hp
  obtain⟨n,l,hf,hl⟩:=hs
  have hsl:slE s e'=l:=by unfold slE;rw[hf]
  rw[hsl]
  split
  ·refine Qgc (by rw[Q2z,hl]) fun i hi=>?_
   rw[Q2z]at hi
   rw[Q88 _ hi]
   have:=Qgb (fu:=fu) (fns:=fns) (i:=(i:Int)) hf ⟨by omega,by omega⟩
   simpa using this
  ·rename_i hn
   have:=(h.ok id sl fn hp).resolve_left hn
   exact Qgb hf (by omega)
theorem Qd3{s:Sc}{e':En}(h:SlfE s e')(n:Int)(needs:List Int):BigV fu fns (closC n needs s) e' (.cap n (needs.map (valC s e'))):=by
 unfold closC
 refine Qgc (by simp) fun i hi=>?_
 have hi:i < needs.length:=by simpa using hi
 have h1:(needs.map (varC s)).getD i default=varC s needs[i]:=by rw[List.getD_eq_getElem?_getD,List.getElem?_map,List.getElem?_eq_getElem hi];rfl
 have h2:(needs.map (valC s e')).getD i .nil=valC s e' needs[i]:=by rw[List.getD_eq_getElem?_getD,List.getElem?_map,List.getElem?_eq_getElem hi];rfl
 rw[h1,h2]
 exact Qkl h _
end
end Go.Proofs.YtkgjldchcbfpnaaGreatDoor
