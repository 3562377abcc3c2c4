/- The machine's next operand: a node without operands left, walked: bindings. -/
import Derived.Test.YtkgjldchcbfpnaaGreatDoorK9
import Derived.LaidEqlPtr
import Derived.KernelRfl
set_option maxRecDepth 10000
set_option linter.unusedVariables false
set_option linter.unusedSimpArgs false
namespace Go.Proofs.YtkgjldchcbfpnaaGreatDoor
open Go Go.Abs Go.CoreX
variable {Γ:List (Nat×List AC)}
theorem ACode.stEq{E:Env}{c:Code}{K:Cont}{fr:Fr}{σ σ':St}(h:σ=σ')(k:ACode E c K fr σ'):ACode E c K fr σ:=h▸k
theorem AOps.stEq{E:Env}{ops:Array Oper}{l:List Oper}{K:Cont}{fr:Fr}{σ σ':St}(h:σ=σ')(k:AOps E ops l K fr σ'):AOps E ops l K fr σ:=h▸k
def GrP (mc:List AC)(n:Nat)(ou0:Outer)(H:Hm)(mc':List AC)(R:FV->Hm->Prop):FV->St->Prop:=fun v σ=>∃ou1 H1,σ=⟨0,[],ouX mc' n ou1⟩/\Gro (ouX mc n ou0) H (ouX mc n ou1) H1/\R v H1
theorem GrP.of{mc:List AC}{n:Nat}{ou0 ou':Outer}{H H1:Hm}{R:FV->Hm->Prop}{v:FV}(g:Gro (ouX mc n ou0) H ou' H1)(h:R v H1):GrP mc n ou0 H mc R v ⟨0,[],ou'⟩:=by
 have e:=Qc6 (n:=n) (g.old 0 _ rfl)
 refine⟨ou',H1,by rw[←e],?_,h⟩
 rw[←e];exact g
section
variable {fu:Int}{fc:FcT}{fns:List Fun}{ou:Outer}{H:Hm}{nm:Nm2}{m:Ms}{tc0 ec0 vc0 kc0:AC}{t:Tr}{e:En}{d:List Vl}{k:List Fm}{ec:AC}{dc:List (List AC)}{kc:AC}
theorem kid_let(hΓ:∀g cs,(g,cs)∈Γ->idsL isO cs)(h0:M0 fu fc ou H nm m tc0 ec0 vc0 kc0)(hfc:fc.ids isO)(he:ER H nm e ec)(hd:VsR H nm d dc)(hk:KR H nm k kc){v:Vl}(hdv:d=[v]){s:Tr}{id:Int}(h4:t.op=4)(hs:t.kids[1]?=some s)(hbn:t.binds=[id]):
  AFnP Tryz.prog Γ 86 [.one (.ptr (.o 0) 0),.one (.box [.box (cTr t),ec,.sl 1 dc,kc])] ou (StQ fu fc H nm (kidM fu fns m (.mk t e d) k)) (StP m (kidM fu fns m (.mk t e d) k)):=by
 have hoX:=h0.ouX
 have hei:=he.ids
 have hdi:=hd.ids
 have hki:=hk.ids
 have hdl:=hd.len
 have hop:opdN t=1:=by unfold opdN;rw[if_pos (.inl h4)]
 subst hdv
 obtain⟨y,hy,hvy⟩:=hd.get (i:=0) rfl
 rw[hoX]
 have hw:=h0.w
 rw[hoX]at hw
 generalize hmc:ou=ou0 at hw
 clear hoX
 refine AFnP.walk 262 tabOk hΓ Tryz.func86 rfl (by kernel_rfl) rfl rfl fun hou=>?_
 refine zA ?_
 refine ACode.drawX tabOk 10 [(9,.one (int (opdN t)))] follows (by kernel_rfl) rfl rfl rfl rfl ?_ ?_
 ·exact⟨⟨_,rfl,AStep.callPure hΓ rfl rfl rfl (by simp[idsF]) hou (Q46 t)⟩,trivial⟩
 refine zA ?_
 refine ACode.cond rfl (fun hb=>absurd hb (by simp[hdl,hop])) (fun hb=>?_)
 refine zA ?_
 refine ACode.stEq (σ':=⟨0,[],ouX (mC tc0 ec0 vc0 kc m.out m.steps fu fc) m.out.length ou0⟩) (setX _ _ _ _) ?_
 have hw1:WR (ouX (mC tc0 ec0 vc0 kc m.out m.steps fu fc) m.out.length ou0) H nm m.heap:=hw.put (by simp[mC,h0.ids.1,h0.ids.2.1,h0.ids.2.2.1,hki,hfc]) rfl rfl (fun _=>rfl)
 have hyi:=hvy.ids
 have hsc:(Q0v t.kids)[1]?=some [.box (cTr s)]:=Q0u hs
 have hbc:(t.binds.map cI)[0]?=some [int id]:=by rw[hbn];rfl
 refine ACode.cond rfl (fun _=>?_) (fun hb=>absurd hb (by simp[h4]))
 refine ACode.drawCS tabOk 34 30 31 32 33 (.one (.ptr (.o 0) 0)) (.one (.ptr (.o 0) 0)) [(9,.one (.box [.box (cTr s)])),(22,.one (.box [int id])),(28,.one (.box [y]))]
  (GrP (mC tc0 ec0 vc0 kc m.out m.steps fu fc) m.out.length ou0 H (mC tc0 ec0 vc0 kc m.out m.steps fu fc) fun v H1=>∃q,v=.one (.ptr (.o q) 0)/\H1 q=some [int id,y,ec])
  (GrP (mC tc0 ec0 vc0 kc m.out m.steps fu fc) m.out.length ou0 H (mC (.box (cTr s)) ec0 vc0 kc m.out m.steps fu fc) fun v H1=>∃q,v=.one (.ptr (.o q) 0)/\H1 q=some [int id,y,ec])
  follows (by kernel_rfl) rfl rfl (by decide) (by kernel_rfl) (by kernel_rfl) rfl rfl rfl rfl rfl rfl rfl ?_ ?_ ?_ ?_ ?_ ?_ ?_ ?_ ?_ ?_
 ·rintro v σ ⟨ou1,H1,rfl,_,_⟩;rfl
 ·rintro v σ ⟨ou1,H1,rfl,_,_⟩;rfl
 ·exact⟨⟨_,rfl,zIA rfl rfl rfl (by decide) hsc⟩,⟨_,rfl,zIA rfl rfl rfl (by decide) hbc⟩,⟨_,rfl,zIA rfl rfl rfl (by decide) hy⟩,trivial⟩
 ·rintro v σ ⟨ou1,H1,rfl,_,_⟩
  exact⟨⟨_,rfl,zIA rfl rfl rfl (by decide) hsc⟩,⟨_,rfl,zIA rfl rfl rfl (by decide) hbc⟩,⟨_,rfl,zIA rfl rfl rfl (by decide) hy⟩,trivial⟩
 ·rintro v σ ⟨ou1,H1,rfl,_,_⟩
  exact⟨⟨_,rfl,zIA rfl rfl rfl (by decide) hsc⟩,⟨_,rfl,zIA rfl rfl rfl (by decide) hbc⟩,⟨_,rfl,zIA rfl rfl rfl (by decide) hy⟩,trivial⟩
 ·refine Q1c.ofR (Q0n.call hΓ rfl rfl rfl rfl ⟨hei,trivial,hyi,trivial⟩ hw1.ok (Qdc id y ec hyi hei _) fun r ou' hq hr ho=>?_)
  obtain⟨q,rfl,hN⟩:=hq
  exact GrP.of (Gro.add hw1.inO hN) ⟨q,rfl,by simp[addH]⟩
 ·rintro v σ ⟨ou1,H1,rfl,_,q,rfl,_⟩;exact AStep.ofOp tabOk rfl
 ·rintro v σ ⟨ou1,H1,rfl,_,q,rfl,_⟩;exact AStep.ofOp tabOk rfl
 ·rintro v σ ⟨ou1,H1,rfl,h1,h2⟩;exact⟨_,⟨ou1,H1,setX _ _ _ _,h1,h2⟩,AStep.ofStore tabOk rfl⟩
 ·rintro v' σ ⟨ou1,H1,rfl,h1,q,rfl,h3⟩
  refine zA ?_
  have hw2:=hw1.gro h1 (by simp[ouX]) (by simp[ouX])
  have hM:MR fu fc _ H1 nm { m with c:=.ev s (.bind id v e),k:=k }:=MR.ofEv (ou':=(St.set ⟨0,[],ouX (mC (.box (cTr s)) ec0 vc0 kc m.out m.steps fu fc) m.out.length ou1⟩ (.o 0) (.cells (mC (.box (cTr s)) (.ptr (.o q) 0) vc0 kc m.out m.steps fu fc))).ou) hw2 (.bind id v e q y ec h3 (hvy.mo (h1.mo nm)) (he.mo (h1.mo nm))) (hk.mo (h1.mo nm)) h0.ids.2.2.1 hfc rfl rfl (fun _=>rfl)
  refine AFn.fin' rfl (WkF.refl _) (by simp) hM.ok ⟨rfl,H1,nm,_,?_,h1.mo nm,hM⟩
  unfold kidM
  rw[if_neg (show ¬(Fm.mk t e [v]).done.length < opdN (Fm.mk t e [v]).t by simp[hop]),if_pos (show (Fm.mk t e [v]).t.op=4 from h4)]
  simp only[Fm.done_mk,Fm.t_mk,Fm.e_mk,hbn]
  rw[List.getD_eq_getElem?_getD,hs]
  rfl
end
theorem setXs(N:Nat)(lo:List (Nat×AObj))(mc mc':List AC)(n:Nat)(ou:Outer):(⟨N,lo,ouX mc n ou⟩:St).set (.o 0) (.cells mc')=⟨N,lo,ouX mc' n ou⟩:=by
 have:=setX mc mc' n ou
 simp only[St.set,St.mk.injEq,true_and]at this ⊢
 exact this
def GrS (mc:List AC)(n:Nat)(ou0:Outer)(H:Hm)(mc':List AC)(L:Nat×List (Nat×AObj))(R:FV->Hm->Prop):FV->St->Prop:=fun v σ=>∃ou1 H1,σ=⟨L.1,L.2,ouX mc' n ou1⟩/\Gro (ouX mc n ou0) H (ouX mc n ou1) H1/\R v H1
theorem GrS.of{mc:List AC}{n:Nat}{ou0 ou':Outer}{H H1:Hm}{L:Nat×List (Nat×AObj)}{R:FV->Hm->Prop}{v:FV}(g:Gro (ouX mc n ou0) H ou' H1)(h:R v H1):GrS mc n ou0 H mc L R v ⟨L.1,L.2,ou'⟩:=by
 have e:=Qc6 (n:=n) (g.old 0 _ rfl)
 refine⟨ou',H1,by rw[←e],?_,h⟩
 rw[←e];exact g
section
variable {fu:Int}{fc:FcT}{fns:List Fun}{ou:Outer}{H:Hm}{nm:Nm2}{m:Ms}{tc0 ec0 vc0 kc:AC}{t:Tr}{e:En}{d:List Vl}{k:List Fm}{ec:AC}{dc:List (List AC)}
theorem Qcx{tag:Int}{fs:List Vl}{e:En}{kids:List Tr}{a:Alt}{al:List Alt}{i:Nat}(h:al.drop i=a::al.drop (i+1))(h1:a.tag≠tag)(h2:a.tag≠-1):Q16 tag fs e kids i (al.drop i)=Q16 tag fs e kids (i+1) (al.drop (i+1)):=by
 rw[h,Q16,if_neg h1,if_neg h2]
theorem Qhc{v:Vl}(h:∀g fs,v≠.obj g fs):Q2v m t e v=.error 5:=by cases v <;> first|rfl|exact absurd rfl (h _ _)
theorem Qkd(hΓ:∀g cs,(g,cs)∈Γ->idsL isO cs)(h0:M0 fu fc ou H nm m tc0 ec0 vc0 kc)(hfc:fc.ids isO)(he:ER H nm e ec)(hd:VsR H nm d dc)(hk:KR H nm k kc){v:Vl}(hdv:d[0]?=some v)(hkl:t.kids.length=1+t.alts.length)(hal:t.alts.length<=1048576)(hbl:∀a∈t.alts,a.binds.length<=1048576)(nx:AC)(hnx:nx.ids isO):
  AFnP Tryz.prog Γ 108 [.one (.ptr (.o 0) 0),.one (.box [.box (cTr t),ec,.sl 1 dc,nx])] ou (StQ fu fc H nm (Q2v { m with k:=k } t e v)) (StP m (Q2v { m with k:=k } t e v)):=by
 have hoX:=h0.ouX
 have hei:=he.ids
 have hdi:=hd.ids
 have hki:=hk.ids
 have hpr:=h0.pr
 obtain⟨y,hy,hvy⟩:=hd.get hdv
 have hyi:=hvy.ids
 rw[hoX]at hpr ⊢
 have hw:=h0.w
 rw[hoX]at hw
 generalize hmc:ou=ou0 at hw hpr
 clear hoX
 refine AFnP.walk 120 tabOk hΓ Tryz.func108 rfl (by kernel_rfl) rfl rfl fun hou=>?_
 refine zA ?_
 refine zS (zIA rfl rfl rfl (by decide) hy) ?_
 refine zA ?_
 rcases hvy.isObj with ⟨g,fs,cs,rfl,rfl,hfs⟩|⟨ho,hno⟩
 ·refine zS (AStep.assertYes Q4g rfl rfl) ?_
  have hci:=hfs.ids
  have hcl:=hfs.len
  have hfcell:(FV.one (.box [.box (cTr t),ec,.sl 1 dc,nx])).ids isO:=⟨by simp,hei,hdi,hnx,trivial⟩
  have hocell:(FV.one (.box [int g,.sl 1 cs])).ids isO:=⟨trivial,hci,trivial⟩
  refine zA ?_
  refine ACode.loopR hΓ (α:=Nat) (fun i=>[(30,.one (int i)),(29,.one (int (t.alts.map cAlt).length)),(28,.one (.sl 2 (t.alts.map cAlt))),(4,.one (.box [int g,.sl 1 cs])),(1,.one (.box [.box (cTr t),ec,.sl 1 dc,nx])),(0,.one (.ptr (.o 0) 0))])
   (fun i => ⟨0, [], ouX (mC tc0 ec0 vc0 kc m.out m.steps fu fc) m.out.length ou0⟩) (fun n i => i <= t.alts.length /\ Q16 g fs e t.kids i (t.alts.drop i) = Q16 g fs e t.kids 0 t.alts /\ n = t.alts.length - i) (a0 := 0) (ρ := _root_.id) ⟨by simp, by simp, rfl⟩
   (LessR.of rfl zFW (by simp [Q32 hei, Q59 hdi, Q32 hnx, Q59 hci]) zLO rfl rfl hou) fun n i hi => ?_
  obtain⟨hil,hch,rfl⟩:=hi
  refine zA ?_
  refine ACode.cond rfl (fun hb2=>?_) (fun hb2=>?_)
  ·have hlt:i < t.alts.length:=by simpa using hb2
   clear hb2
   obtain⟨a,ha⟩:=Q01 hlt
   have hdr:t.alts.drop i=a::t.alts.drop (i+1):=by
    rw[List.drop_eq_getElem_cons hlt]
    congr 1
    exact Option.some.inj ((List.getElem?_eq_getElem hlt).symm.trans ha)
   refine zA ?_
   refine zS (zIA rfl rfl rfl (by omega) (Q06 ha)) ?_
   refine zA ?_
   have hk1:1+i < t.kids.length:=by omega
   obtain⟨s,hs⟩:=Q01 hk1
   have hsc:(Q0v t.kids)[1+i]?=some [.box (cTr s)]:=Q0u hs
   have hgd:t.kids.getD (1+i) default=s:=by rw[List.getD_eq_getElem?_getD,hs];rfl
   have hadd:Q49 .i64 ((1:Int)+(i:Int)):=Q31 (by omega) (by omega)
   have hix:(Q0v t.kids)[((1:Int)+(i:Int)).toNat]?=some [.box (cTr s)]:=by rw[show ((1:Int)+(i:Int)).toNat=1+i by omega];exact hsc
   by_cases htag:a.tag=g
   ·refine ACode.drawX tabOk 18 [(6,.one (.lit (.bool true)))] follows (by kernel_rfl) rfl rfl rfl rfl ?_ ?_
    ·exact .step rfl (HStep.litB tabOk rfl (by simp[htag])) .nil
    refine zA ?_
    refine ACode.cond rfl (fun hb3=>?_) (fun hb3=>?_)
    ·refine zA ?_
     refine zS (AStep.mkIfcA Q0s rfl rfl) ?_
     refine AOps.panicI rfl rfl rfl fun w C v hv=>⟨hou,5,?_,Q0x hv,hpr⟩
     unfold Q2v
     simp only[←hch]
     rw[hdr,Q16,if_pos htag,if_neg (by simp[hcl]at hb3;omega)]
     rfl
    ·have hlen:a.binds.length=fs.length:=by simp[hcl]at hb3;omega
     refine zA ?_
     refine ACode.drawX tabOk 7 [(6,.one (.lit (.bool true)))] follows (by kernel_rfl) rfl rfl rfl rfl ?_ ?_
     ·exact .step rfl (HStep.litB tabOk rfl (by simp[htag])) .nil
     refine zA ?_
     refine ACode.drawCS tabOk 27 23 24 25 26 (.one (.ptr (.o 0) 0)) (.one (.ptr (.o 0) 0)) [(10,.one (int ((1:Int)+(i:Int)))),(11,.one (.box [.box (cTr s)]))]
      (GrS (mC tc0 ec0 vc0 kc m.out m.steps fu fc) m.out.length ou0 H (mC tc0 ec0 vc0 kc m.out m.steps fu fc) (1,[(0,.cells (cAlt a)),(0,.cells [int 0,.lit (.slice none 0 0)])]) fun v H1=>∃c,v=.one c/\ER H1 nm (allE e a.binds fs) c)
      (GrS (mC tc0 ec0 vc0 kc m.out m.steps fu fc) m.out.length ou0 H (mC (.box (cTr s)) ec0 vc0 kc m.out m.steps fu fc) (1,[(0,.cells (cAlt a)),(0,.cells [int 0,.lit (.slice none 0 0)])]) fun v H1=>∃c,v=.one c/\ER H1 nm (allE e a.binds fs) c)
      follows (by kernel_rfl) rfl rfl (by decide) (by kernel_rfl) (by kernel_rfl) rfl rfl rfl rfl rfl rfl rfl ?_ ?_ ?_ ?_ ?_ ?_ ?_ ?_ ?_ ?_
     ·rintro v σ ⟨ou1,H1,rfl,_,_⟩;rfl
     ·rintro v σ ⟨ou1,H1,rfl,_,_⟩;rfl
     ·exact⟨⟨_,rfl,AStep.arith rfl rfl rfl (.inl ⟨rfl,rfl⟩) hadd⟩,⟨_,rfl,zIA rfl rfl rfl (by omega) hix⟩,trivial⟩
     ·rintro v σ ⟨ou1,H1,rfl,_,_⟩
      exact⟨⟨_,rfl,AStep.arith rfl rfl rfl (.inl ⟨rfl,rfl⟩) hadd⟩,⟨_,rfl,zIA rfl rfl rfl (by omega) hix⟩,trivial⟩
     ·rintro v σ ⟨ou1,H1,rfl,_,_⟩
      exact⟨⟨_,rfl,AStep.arith rfl rfl rfl (.inl ⟨rfl,rfl⟩) hadd⟩,⟨_,rfl,zIA rfl rfl rfl (by omega) hix⟩,trivial⟩
     ·refine Q1c.ofR (Q0n.call hΓ rfl rfl rfl rfl ⟨hei,by simp,hci,trivial⟩ hw.ok (Qd4 hΓ he hfs hlen (hbl a (List.mem_of_getElem? ha)) _ hw.inO) fun r ou' hq hr ho=>?_)
      obtain⟨H1,c,rfl,hg,hec⟩:=hq
      exact GrS.of hg ⟨c,rfl,hec⟩
     ·rintro v σ ⟨ou1,H1,rfl,_,_,rfl,_⟩;exact AStep.ofOp tabOk rfl
     ·rintro v σ ⟨ou1,H1,rfl,_,_,rfl,_⟩;exact AStep.ofOp tabOk rfl
     ·rintro v σ ⟨ou1,H1,rfl,h1,h2⟩;exact⟨_,⟨ou1,H1,setXs _ _ _ _ _ _,h1,h2⟩,AStep.ofStore tabOk rfl⟩
     ·rintro v' σ ⟨ou1,H1,rfl,h1,c,rfl,h3⟩
      refine zA ?_
      have hw2:=hw.gro h1 (by simp[ouX]) (by simp[ouX])
      have hM:MR fu fc _ H1 nm { m with c:=.ev s (allE e a.binds fs),k:=k }:=MR.ofEv (ou':=(St.set ⟨0,[],ouX (mC (.box (cTr s)) ec0 vc0 kc m.out m.steps fu fc) m.out.length ou1⟩ (.o 0) (.cells (mC (.box (cTr s)) c vc0 kc m.out m.steps fu fc))).ou) hw2 h3 (hk.mo (h1.mo nm)) h0.ids.2.2.1 hfc rfl rfl (fun _=>rfl)
      refine AFn.fin' rfl (WkF.refl _) (by simp) hM.ok ⟨rfl,H1,nm,_,?_,h1.mo nm,hM⟩
      unfold Q2v
      simp only[←hch]
      rw[hdr,Q16,if_pos htag,if_pos hlen,hgd]
      rfl
   ·refine ACode.drawX tabOk 18 [(6,.one (.lit (.bool false)))] follows (by kernel_rfl) rfl rfl rfl rfl ?_ ?_
    ·exact .step rfl (HStep.litB tabOk rfl (by simp[htag])) .nil
    refine zA ?_
    refine ACode.drawX tabOk 7 [(6,.one (.lit (.bool false)))] follows (by kernel_rfl) rfl rfl rfl rfl ?_ ?_
    ·exact .step rfl (HStep.litB tabOk rfl (by simp[htag])) .nil
    refine zA ?_
    refine ACode.cond rfl (fun hb3=>?_) (fun hb3=>?_)
    ·have h1:a.tag=-1:=by simpa using hb3
     refine zA ?_
     refine ACode.drawSt tabOk 20 19 [(10,.one (int ((1:Int)+(i:Int)))),(11,.one (.box [.box (cTr s)]))] _ follows (by kernel_rfl) rfl rfl (by kernel_rfl) rfl ?_ rfl rfl rfl rfl ?_ ?_ (AStep.ofStore tabOk rfl) ?_
     ·rfl
     ·exact⟨⟨_,rfl,AStep.arith rfl rfl rfl (.inl ⟨rfl,rfl⟩) hadd⟩,⟨_,rfl,zIA rfl rfl rfl (by omega) hix⟩,trivial⟩
     ·exact⟨⟨_,rfl,AStep.arith rfl rfl rfl (.inl ⟨rfl,rfl⟩) hadd⟩,⟨_,rfl,zIA rfl rfl rfl (by omega) hix⟩,trivial⟩
     refine zA ?_
     have hM:MR fu fc _ H nm { m with c:=.ev s e,k:=k }:=MR.ofEv (ou':=(St.set (St.set ⟨0,[],ouX (mC tc0 ec0 vc0 kc m.out m.steps fu fc) m.out.length ou0⟩ (.o 0) (.cells (mC (.box (cTr s)) ec0 vc0 kc m.out m.steps fu fc))) (.o 0) (.cells (mC (.box (cTr s)) ec vc0 kc m.out m.steps fu fc))).ou) hw he hk h0.ids.2.2.1 hfc rfl rfl (fun _=>rfl)
     refine AFn.fin' rfl (WkF.refl _) (by simp) hM.ok ⟨rfl,H,nm,_,?_,.refl _ _,hM⟩
     unfold Q2v
     simp only[←hch]
     rw[hdr,Q16,if_neg htag,if_pos h1,hgd]
     rfl
    ·have h1:a.tag≠-1:=by simpa using hb3
     refine zM ?_
     exact cInv ⟨t.alts.length - (i+1),i+1,fun k=>k,by omega,⟨by omega,by rw[←Qcx hdr htag h1];exact hch,rfl⟩,LessR.of rfl zFW (by simp[Q32 hei,Q59 hdi,Q32 hnx,Q59 hci]) zLO rfl rfl hou⟩
  ·have hlt:i=t.alts.length:=by simp at hb2;omega
   subst hlt
   refine zA ?_
   refine zS (AStep.mkIfcA Q0s rfl rfl) ?_
   refine AOps.panicI rfl rfl rfl fun w C v hv=>⟨hou,3,?_,Q0x hv,hpr⟩
   rw[List.drop_length]at hch
   unfold Q2v
   simp only[←hch,Q16]
   rfl
 ·refine zS (AStep.assertNo Q4g rfl zObj rfl rfl hno) ?_
  refine zA ?_
  refine zS (AStep.mkIfcA Q0s rfl rfl) ?_
  refine AOps.panicI rfl rfl rfl fun w C v hv=>⟨hou,5,?_,Q0x hv,hpr⟩
  exact Qhc ho
end
section
variable {fu:Int}{fc:FcT}{fns:List Fun}{ou:Outer}{H:Hm}{nm:Nm2}{m:Ms}{tc0 ec0 vc0 kc:AC}{k:List Fm}
theorem ouX_2{mc mc':List AC}{n n' q:Nat}{ou:Outer}(h:1<=q):ouX mc n ou q=ouX mc' n' ou q:=by
 obtain⟨j,rfl⟩:∃j,q=j+1:=⟨q - 1,by omega⟩
 rfl
theorem WR.ge2{ou:Outer}{H:Hm}{nm:Nm2}{heap:List (List Vl)}(w:WR ou H nm heap){q:Nat}{cs:List AC}(h:H q=some cs):1<=q:=by
 match q with
 |0=>rw[w.sep.1]at h;cases h
 |q+1=>omega
def Qag (fu:Int)(fc:FcT)(fns:List Fun)(ou:Outer)(H:Hm)(nm:Nm2)(m:Ms)(k:List Fm)(v:Vl)(vc:AC)(l:List Vl)(cs:List (List AC))(Γ:List (Nat×List AC)):Prop:=
 AFnP Tryz.prog Γ 109 [.one (.ptr (.o 0) 0),.one vc,.one (.sl 1 cs)] ou (StQ fu fc H nm (callM fns { m with k:=k } v l)) (StP m (callM fns { m with k:=k } v l))
theorem Qmn(hΓ:∀g cs,(g,cs)∈Γ->idsL isO cs)(h0:M0 fu fc ou H nm m tc0 ec0 vc0 kc)(hfc:fc.ids isO)(hk:KR H nm k kc){t:Tr}{e:En}{c:AC}{l:List Vl}{cs:List (List AC)}(he:ER H nm e c)(hl:VsR H nm l cs){s:Tr}(hs:t.kids[0]?=some s)(hb20:t.binds.length<=1048576):
  Qag fu fc fns ou H nm m k (.clo t e) (iB tClo [.box (cTr t),c]) l cs Γ:=by
 unfold Qag
 have hoX:=h0.ouX
 have hei:=he.ids
 have hli:=hl.ids
 have hki:=hk.ids
 have hll:=hl.len
 have hpr:=h0.pr
 rw[hoX]at hpr ⊢
 have hw:=h0.w
 rw[hoX]at hw
 generalize hmc:ou=ou0 at hw hpr
 clear hoX
 have hsc:(Q0v t.kids)[0]?=some [.box (cTr s)]:=Q0u hs
 refine AFnP.walk 137 tabOk hΓ Tryz.func109 rfl (by kernel_rfl) rfl rfl fun hou=>?_
 refine zA ?_
 refine zS (AStep.assertYes Q4y rfl rfl) ?_
 refine zA ?_
 refine ACode.cond rfl (fun hb=>?_) (fun hb=>?_)
 ·have hlen:t.binds.length=l.length:=by simp[hll]at hb;omega
  refine zA ?_
  refine ACode.drawCS tabOk 27 23 24 25 26 (.one (.ptr (.o 0) 0)) (.one (.ptr (.o 0) 0)) [(9,.one (.box [.box (cTr s)]))]
   (GrS (mC tc0 ec0 vc0 kc m.out m.steps fu fc) m.out.length ou0 H (mC tc0 ec0 vc0 kc m.out m.steps fu fc) (1,[(0,.cells [.ptr (.o 0) 0])]) fun v H1=>∃c,v=.one c/\ER H1 nm (allE e t.binds l) c)
   (GrS (mC tc0 ec0 vc0 kc m.out m.steps fu fc) m.out.length ou0 H (mC (.box (cTr s)) ec0 vc0 kc m.out m.steps fu fc) (1,[(0,.cells [.ptr (.o 0) 0])]) fun v H1=>∃c,v=.one c/\ER H1 nm (allE e t.binds l) c)
   follows (by kernel_rfl) rfl rfl (by decide) (by kernel_rfl) (by kernel_rfl) rfl rfl rfl rfl rfl rfl rfl ?_ ?_ ?_ ?_ ?_ ?_ ?_ ?_ ?_ ?_
  ·rintro v σ ⟨ou1,H1,rfl,_,_⟩;rfl
  ·rintro v σ ⟨ou1,H1,rfl,_,_⟩;rfl
  ·exact⟨⟨_,rfl,zIA rfl rfl rfl (by decide) hsc⟩,trivial⟩
  ·rintro v σ ⟨ou1,H1,rfl,hg,_⟩
   skip
   exact⟨⟨_,rfl,zIA rfl rfl rfl (by decide) hsc⟩,trivial⟩
  ·rintro v σ ⟨ou1,H1,rfl,hg,_⟩
   skip
   exact⟨⟨_,rfl,zIA rfl rfl rfl (by decide) hsc⟩,trivial⟩
  ·refine Q1c.ofR (Q0n.call hΓ rfl rfl rfl rfl ⟨hei,by simp,hli,trivial⟩ hw.ok (Qd4 hΓ he hl hlen hb20 _ hw.inO) fun r ou' hq hr ho=>?_)
   obtain⟨H1,c1,rfl,hg,hec⟩:=hq
   exact GrS.of hg ⟨c1,rfl,hec⟩
  ·rintro v σ ⟨ou1,H1,rfl,_,_,rfl,_⟩;exact AStep.ofOp tabOk rfl
  ·rintro v σ ⟨ou1,H1,rfl,_,_,rfl,_⟩;exact AStep.ofOp tabOk rfl
  ·rintro v σ ⟨ou1,H1,rfl,h1,h2⟩;exact⟨_,⟨ou1,H1,setXs _ _ _ _ _ _,h1,h2⟩,AStep.ofStore tabOk rfl⟩
  ·rintro v' σ ⟨ou1,H1,rfl,h1,c1,rfl,h3⟩
   refine zA ?_
   have hw2:=hw.gro h1 (by simp[ouX]) (by simp[ouX])
   have hM:MR fu fc _ H1 nm { m with c:=.ev s (allE e t.binds l),k:=k }:=MR.ofEv (ou':=(St.set ⟨0,[],ouX (mC (.box (cTr s)) ec0 vc0 kc m.out m.steps fu fc) m.out.length ou1⟩ (.o 0) (.cells (mC (.box (cTr s)) c1 vc0 kc m.out m.steps fu fc))).ou) hw2 h3 (hk.mo (h1.mo nm)) h0.ids.2.2.1 hfc rfl rfl (fun _=>rfl)
   refine AFn.fin' rfl (WkF.refl _) (by simp) hM.ok ⟨rfl,H1,nm,_,?_,h1.mo nm,hM⟩
   simp only[callM]
   rw[if_pos hlen,List.getD_eq_getElem?_getD,hs]
   rfl
 ·have hlen:¬t.binds.length=l.length:=by simp[hll]at hb;omega
  refine zA ?_
  refine zS (AStep.mkIfcA Q0s rfl rfl) ?_
  refine AOps.panicI rfl rfl rfl fun w C v hv=>⟨hou,5,?_,Q0x hv,hpr⟩
  simp only[callM]
  rw[if_neg hlen]
theorem Qkg(hΓ:∀g cs,(g,cs)∈Γ->idsL isO cs)(h0:M0 fu fc ou H nm m tc0 ec0 vc0 kc)(hfc:fc.ids isO)(hk:KR H nm k kc){t:Tr}{e:En}{c:AC}{l:List Vl}{cs:List (List AC)}{q:Nat}(hq:H q=some [.box (cTr t),c])(he:ER H nm e c)(hl:VsR H nm l cs){s:Tr}(hs:t.kids[0]?=some s)(hb20:t.binds.length<=1048576):
  Qag fu fc fns ou H nm m k (.clo t e) (.ifc tClo false [.ptr (.o q) 0]) l cs Γ:=by
 unfold Qag
 have hoX:=h0.ouX
 have hei:=he.ids
 have hli:=hl.ids
 have hki:=hk.ids
 have hll:=hl.len
 have hpr:=h0.pr
 rw[hoX]at hpr ⊢
 have hw:=h0.w
 rw[hoX]at hw
 generalize hmc:ou=ou0 at hw hpr
 clear hoX
 have hsc:(Q0v t.kids)[0]?=some [.box (cTr s)]:=Q0u hs
 have hx:=hw.inO q _ hq
 refine AFnP.walk 137 tabOk hΓ Tryz.func109 rfl (by kernel_rfl) rfl rfl fun hou=>?_
 refine zA ?_
 refine zS (AStep.assertYes Q4y rfl rfl) ?_
 repeat' first|refine zN ?_|((with_reducible refine oj ?_);first|refine zix ?_|refine zow rfl rfl hx ?_)
 refine ACode.cond rfl (fun hb=>?_) (fun hb=>?_)
 ·have hlen:t.binds.length=l.length:=by simp[hll]at hb;omega
  refine zA ?_
  refine ACode.drawCS tabOk 27 23 24 25 26 (.one (.ptr (.o 0) 0)) (.one (.ptr (.o 0) 0)) [(5,.one (.box (cTr t))),(14,.one c),(18,.one (.box (cTr t))),(9,.one (.box [.box (cTr s)]))]
   (GrS (mC tc0 ec0 vc0 kc m.out m.steps fu fc) m.out.length ou0 H (mC tc0 ec0 vc0 kc m.out m.steps fu fc) (1,[(0,.cells [.ptr (.o 0) 0])]) fun v H1=>∃c,v=.one c/\ER H1 nm (allE e t.binds l) c)
   (GrS (mC tc0 ec0 vc0 kc m.out m.steps fu fc) m.out.length ou0 H (mC (.box (cTr s)) ec0 vc0 kc m.out m.steps fu fc) (1,[(0,.cells [.ptr (.o 0) 0])]) fun v H1=>∃c,v=.one c/\ER H1 nm (allE e t.binds l) c)
   follows (by kernel_rfl) rfl rfl (by decide) (by kernel_rfl) (by kernel_rfl) rfl rfl rfl rfl rfl rfl rfl ?_ ?_ ?_ ?_ ?_ ?_ ?_ ?_ ?_ ?_
  ·rintro v σ ⟨ou1,H1,rfl,_,_⟩;rfl
  ·rintro v σ ⟨ou1,H1,rfl,_,_⟩;rfl
  ·exact⟨⟨_,rfl,zLD rfl rfl hx rfl⟩,⟨_,rfl,zLD rfl rfl hx rfl⟩,⟨_,rfl,zLD rfl rfl hx rfl⟩,⟨_,rfl,zIA rfl rfl rfl (by decide) hsc⟩,trivial⟩
  ·rintro v σ ⟨ou1,H1,rfl,hg,_⟩
   have hx1:=hg.old _ _ hx
   exact⟨⟨_,rfl,zLD rfl rfl hx1 rfl⟩,⟨_,rfl,zLD rfl rfl hx1 rfl⟩,⟨_,rfl,zLD rfl rfl hx1 rfl⟩,⟨_,rfl,zIA rfl rfl rfl (by decide) hsc⟩,trivial⟩
  ·rintro v σ ⟨ou1,H1,rfl,hg,_⟩
   have hx1:ouX (mC (.box (cTr s)) ec0 vc0 kc m.out m.steps fu fc) m.out.length ou1 q=some (.cells [.box (cTr t),c]):=(ouX_2 (hw.ge2 hq)).trans (hg.old _ _ hx)
   exact⟨⟨_,rfl,zLD rfl rfl hx1 rfl⟩,⟨_,rfl,zLD rfl rfl hx1 rfl⟩,⟨_,rfl,zLD rfl rfl hx1 rfl⟩,⟨_,rfl,zIA rfl rfl rfl (by decide) hsc⟩,trivial⟩
  ·refine Q1c.ofR (Q0n.call hΓ rfl rfl rfl rfl ⟨hei,by simp,hli,trivial⟩ hw.ok (Qd4 hΓ he hl hlen hb20 _ hw.inO) fun r ou' hq hr ho=>?_)
   obtain⟨H1,c1,rfl,hg,hec⟩:=hq
   exact GrS.of hg ⟨c1,rfl,hec⟩
  ·rintro v σ ⟨ou1,H1,rfl,_,_,rfl,_⟩;exact AStep.ofOp tabOk rfl
  ·rintro v σ ⟨ou1,H1,rfl,_,_,rfl,_⟩;exact AStep.ofOp tabOk rfl
  ·rintro v σ ⟨ou1,H1,rfl,h1,h2⟩;exact⟨_,⟨ou1,H1,setXs _ _ _ _ _ _,h1,h2⟩,AStep.ofStore tabOk rfl⟩
  ·rintro v' σ ⟨ou1,H1,rfl,h1,c1,rfl,h3⟩
   refine zA ?_
   have hw2:=hw.gro h1 (by simp[ouX]) (by simp[ouX])
   have hM:MR fu fc _ H1 nm { m with c:=.ev s (allE e t.binds l),k:=k }:=MR.ofEv (ou':=(St.set ⟨0,[],ouX (mC (.box (cTr s)) ec0 vc0 kc m.out m.steps fu fc) m.out.length ou1⟩ (.o 0) (.cells (mC (.box (cTr s)) c1 vc0 kc m.out m.steps fu fc))).ou) hw2 h3 (hk.mo (h1.mo nm)) h0.ids.2.2.1 hfc rfl rfl (fun _=>rfl)
   refine AFn.fin' rfl (WkF.refl _) (by simp) hM.ok ⟨rfl,H1,nm,_,?_,h1.mo nm,hM⟩
   simp only[callM]
   rw[if_pos hlen,List.getD_eq_getElem?_getD,hs]
   rfl
 ·have hlen:¬t.binds.length=l.length:=by simp[hll]at hb;omega
  refine zA ?_
  refine zS (AStep.mkIfcA Q0s rfl rfl) ?_
  refine AOps.panicI rfl rfl rfl fun w C v hv=>⟨hou,5,?_,Q0x hv,hpr⟩
  simp only[callM]
  rw[if_neg hlen]
theorem Qmp{v:Vl}{l:List Vl}(h1:∀t e,v≠.clo t e)(h2:∀n s,v≠.cap n s)(h3:(∀fs,v≠.res fs)∨l.length≠1):callM fns { m with k:=k } v l=.error 5:=by
 cases v with
 |clo t e=>exact absurd rfl (h1 t e)
 |cap n s=>exact absurd rfl (h2 n s)
 |res fs=>
  rcases h3 with h3|h3
  ·exact absurd rfl (h3 fs)
  ·match l,h3 with
   |[],_=>rfl
   |[a],h3=>exact absurd rfl h3
   |a::b::l,_=>rfl
 |nil=>rfl
 |word n=>rfl
 |obj g fs=>rfl
 |row ls fs=>rfl
 |arr a=>rfl
theorem Qkf(hΓ:∀g cs,(g,cs)∈Γ->idsL isO cs)(h0:M0 fu fc ou H nm m tc0 ec0 vc0 kc){v:Vl}{vc:AC}{l:List Vl}{cs:List (List AC)}(hv:VR H nm v vc)(hl:VsR H nm l cs)(h1:∀t e,v≠.clo t e)(h2:∀n s,v≠.cap n s)(h3:(∀fs,v≠.res fs)∨l.length≠1):
  Qag fu fc fns ou H nm m k v vc l cs Γ:=by
 unfold Qag
 have hno:=Qmp (fns:=fns) (m:=m) (k:=k) h1 h2 h3
 have hpr:=h0.pr
 have hll:=hl.len
 refine AFnP.walk 137 tabOk hΓ Tryz.func109 rfl (by kernel_rfl) rfl rfl fun hou=>?_
 refine zA ?_
 have n1:notT tClo vc:=by
  rcases hv.isClo with ⟨t,e,rfl⟩|⟨_,h⟩
  ·exact absurd rfl (h1 t e)
  ·exact h
 have n2:notT tCap vc:=by
  rcases hv.isCap with ⟨n,fs,cs,rfl,_⟩|⟨_,h⟩
  ·exact absurd rfl (h2 n fs)
  ·exact h
 refine zS (AStep.assertNo Q4y rfl zClo rfl rfl n1) ?_
 refine zA ?_
 refine zS (AStep.assertNo Q4h rfl zCap rfl rfl n2) ?_
 refine zA ?_
 rcases hv.isRes with ⟨fs,lc,rfl,rfl,hf⟩|⟨_,n3⟩
 ·have hne:l.length≠1:=h3.resolve_left (fun h=>h fs rfl)
  refine zS (AStep.assertYes Qkb rfl rfl) ?_
  refine zA ?_
  refine ACode.cond rfl (fun hb=>absurd hb (by simp[hll];omega)) (fun hb=>?_)
  refine zA ?_
  refine zS (AStep.mkIfcA Q0s rfl rfl) ?_
  exact AOps.panicI rfl rfl rfl fun w C v hv=>⟨hou,5,hno,Q0x hv,hpr⟩
 ·refine zS (AStep.assertNo Qkb rfl zRes rfl rfl n3) ?_
  refine zA ?_
  refine zS (AStep.mkIfcA Q0s rfl rfl) ?_
  exact AOps.panicI rfl rfl rfl fun w C v hv=>⟨hou,5,hno,Q0x hv,hpr⟩
end
def inW (n:Int):Prop:=-1073741824<=n/\n<=1073741823
section
variable {H:Hm}{nm:Nm2}
theorem VsR.nilE{cs:List (List AC)}(h:VsR H nm [] cs):cs=[]:=by cases h;rfl
theorem VsR.consE{v:Vl}{l:List Vl}{cs:List (List AC)}(h:VsR H nm (v::l) cs):∃c ds,cs=[c]::ds/\VR H nm v c/\VsR H nm l ds:=by
 cases h with
 |cons _ c _ ds hv hl=>exact⟨c,ds,rfl,hv,hl⟩
theorem Qlm(hΓ:∀g cs,(g,cs)∈Γ->idsL isO cs){fu:Int}{m m':Ms}{n x y:Int}{v:Vl}(hn:n=0∨n=1∨n=2∨n=5∨n=6)(hx:inW x)(hy:inW y)(hv:primM fu m n [.word x,.word y]=.ok (m',v))(ou:Outer):
  m'=m/\∃c,VR H nm v c/\AFn Tryz.prog Γ 136 [.one (.ptr (.o 0) 0),.one (int n),.one (.sl 1 [[iW x],[iW y]])] ou (fun r ou'=>r=.one c/\ou'=ou):=by
 obtain⟨hx0,hx1⟩:=hx
 obtain⟨hy0,hy1⟩:=hy
 have hm1:-2305843009213693952<=x * y/\x * y<=2305843009213693952:=by
  have h1:(x * y).natAbs<=1073741824 * 1073741824:=by
   rw[Int.natAbs_mul];exact Nat.mul_le_mul (by omega) (by omega)
  omega
 have w1:=wrapW
 rcases hn with rfl|rfl|rfl|rfl|rfl
 ·cases hv
  refine⟨rfl,iW (wrapW (x+y)),.word _,?_⟩
  refine AFn.walk 152 tabOk Tryz.func136 rfl (by kernel_rfl) rfl rfl fun hou=>?_
  refine zA ?_
  refine ACode.drawX tabOk 11 [(1,.one (.box [iW x])),(3,.one (int x)),(5,.one (.box [iW y])),(7,.one (int y)),(8,.one (int (x+y))),(9,.one (int (wrapW (x+y)))),(10,.one (iW (wrapW (x+y))))] follows (by kernel_rfl) rfl rfl rfl rfl ?_ ?_
  ·exact⟨⟨_,rfl,zIA rfl rfl rfl (by decide) rfl⟩,⟨_,rfl,AStep.callPure hΓ rfl rfl rfl (by simp[idsF,iW]) hou (Q0h x)⟩,⟨_,rfl,zIA rfl rfl rfl (by decide) rfl⟩,⟨_,rfl,AStep.callPure hΓ rfl rfl rfl (by simp[idsF,iW]) hou (Q0h y)⟩,⟨_,rfl,AStep.arith rfl rfl rfl (.inl ⟨rfl,rfl⟩) zI⟩,⟨_,rfl,AStep.callPure hΓ rfl rfl rfl (by simp[idsF]) hou (Q7y _ (by omega) (by omega))⟩,⟨_,rfl,AStep.mkIfc conc3 rfl rfl⟩,trivial⟩
  refine zA ?_
  exact AFn.fin' rfl (WkF.ofEq rfl) (by simp[iW]) hou ⟨rfl,rfl⟩
 ·cases hv
  refine⟨rfl,iW (wrapW (x - y)),.word _,?_⟩
  refine AFn.walk 152 tabOk Tryz.func136 rfl (by kernel_rfl) rfl rfl fun hou=>?_
  refine zA ?_
  refine ACode.drawX tabOk 11 [(1,.one (.box [iW x])),(3,.one (int x)),(5,.one (.box [iW y])),(7,.one (int y)),(8,.one (int (x - y))),(9,.one (int (wrapW (x - y)))),(10,.one (iW (wrapW (x - y))))] follows (by kernel_rfl) rfl rfl rfl rfl ?_ ?_
  ·exact⟨⟨_,rfl,zIA rfl rfl rfl (by decide) rfl⟩,⟨_,rfl,AStep.callPure hΓ rfl rfl rfl (by simp[idsF,iW]) hou (Q0h x)⟩,⟨_,rfl,zIA rfl rfl rfl (by decide) rfl⟩,⟨_,rfl,AStep.callPure hΓ rfl rfl rfl (by simp[idsF,iW]) hou (Q0h y)⟩,⟨_,rfl,AStep.arith rfl rfl rfl (.inr (.inl ⟨rfl,rfl⟩)) zI⟩,⟨_,rfl,AStep.callPure hΓ rfl rfl rfl (by simp[idsF]) hou (Q7y _ (by omega) (by omega))⟩,⟨_,rfl,AStep.mkIfc conc3 rfl rfl⟩,trivial⟩
  refine zA ?_
  exact AFn.fin' rfl (WkF.ofEq rfl) (by simp[iW]) hou ⟨rfl,rfl⟩
 ·cases hv
  refine⟨rfl,iW (wrapW (x * y)),.word _,?_⟩
  refine AFn.walk 152 tabOk Tryz.func136 rfl (by kernel_rfl) rfl rfl fun hou=>?_
  refine zA ?_
  refine ACode.drawX tabOk 11 [(1,.one (.box [iW x])),(3,.one (int x)),(5,.one (.box [iW y])),(7,.one (int y)),(8,.one (int (x * y))),(9,.one (int (wrapW (x * y)))),(10,.one (iW (wrapW (x * y))))] follows (by kernel_rfl) rfl rfl rfl rfl ?_ ?_
  ·exact⟨⟨_,rfl,zIA rfl rfl rfl (by decide) rfl⟩,⟨_,rfl,AStep.callPure hΓ rfl rfl rfl (by simp[idsF,iW]) hou (Q0h x)⟩,⟨_,rfl,zIA rfl rfl rfl (by decide) rfl⟩,⟨_,rfl,AStep.callPure hΓ rfl rfl rfl (by simp[idsF,iW]) hou (Q0h y)⟩,⟨_,rfl,AStep.arith rfl rfl rfl (.inr (.inr ⟨rfl,rfl⟩)) zI⟩,⟨_,rfl,AStep.callPure hΓ rfl rfl rfl (by simp[idsF]) hou (Q7y _ (by omega) (by omega))⟩,⟨_,rfl,AStep.mkIfc conc3 rfl rfl⟩,trivial⟩
  refine zA ?_
  exact AFn.fin' rfl (WkF.ofEq rfl) (by simp[iW]) hou ⟨rfl,rfl⟩
 ·cases hv
  refine⟨rfl,iB tObj [int (if decide (x < y)then 1 else 0),.sl 1 []],.obj _ [] [] .nil,?_⟩
  refine AFn.walk 152 tabOk Tryz.func136 rfl (by kernel_rfl) rfl rfl fun hou=>?_
  refine zA ?_
  refine ACode.drawX tabOk 10 [(1,.one (.box [iW x])),(3,.one (int x)),(5,.one (.box [iW y])),(7,.one (int y)),(9,.one (iB tObj [int (if decide (x < y)then 1 else 0),.sl 1 []]))] follows (by kernel_rfl) rfl rfl rfl rfl ?_ ?_
  ·exact⟨⟨_,rfl,zIA rfl rfl rfl (by decide) rfl⟩,⟨_,rfl,AStep.callPure hΓ rfl rfl rfl (by simp[idsF,iW]) hou (Q0h x)⟩,⟨_,rfl,zIA rfl rfl rfl (by decide) rfl⟩,⟨_,rfl,AStep.callPure hΓ rfl rfl rfl (by simp[idsF,iW]) hou (Q0h y)⟩,⟨_,rfl,AStep.callPure hΓ rfl rfl rfl (by simp[idsF]) hou (Q7k _)⟩,trivial⟩
  refine zA ?_
  exact AFn.fin' rfl (WkF.ofEq rfl) (by simp[iB]) hou ⟨rfl,rfl⟩
 ·cases hv
  refine⟨rfl,iB tObj [int (if decide (x=y)then 1 else 0),.sl 1 []],.obj _ [] [] .nil,?_⟩
  refine AFn.walk 152 tabOk Tryz.func136 rfl (by kernel_rfl) rfl rfl fun hou=>?_
  refine zA ?_
  refine ACode.drawX tabOk 10 [(1,.one (.box [iW x])),(3,.one (int x)),(5,.one (.box [iW y])),(7,.one (int y)),(9,.one (iB tObj [int (if decide (x=y)then 1 else 0),.sl 1 []]))] follows (by kernel_rfl) rfl rfl rfl rfl ?_ ?_
  ·exact⟨⟨_,rfl,zIA rfl rfl rfl (by decide) rfl⟩,⟨_,rfl,AStep.callPure hΓ rfl rfl rfl (by simp[idsF,iW]) hou (Q0h x)⟩,⟨_,rfl,zIA rfl rfl rfl (by decide) rfl⟩,⟨_,rfl,AStep.callPure hΓ rfl rfl rfl (by simp[idsF,iW]) hou (Q0h y)⟩,⟨_,rfl,AStep.callPure hΓ rfl rfl rfl (by simp[idsF]) hou (Q7k _)⟩,trivial⟩
  refine zA ?_
  exact AFn.fin' rfl (WkF.ofEq rfl) (by simp[iB]) hou ⟨rfl,rfl⟩
end
end Go.Proofs.YtkgjldchcbfpnaaGreatDoor
namespace Go.Abs
section
variable {E:Env}{o:Oper}{fr:Fr}{σ:St}{t T0 el yt:TypeId}{x y:Operand}
theorem AStep.assert1{c:AC}(hc:E.P.concrete t=true)(ho:o.op=.typeAssert x T0 t false)(hx:aEval E.Γ fr x=some (.one (.ifc t false [c]))):AStep E o fr σ (.one c) σ:=by
 refine AStep.quiet fun F w C tmps hi hf=>?_
 obtain⟨d,hd⟩:=Q3d hc
 obtain⟨xs,h1,h2⟩:=Q00 (a:=⟨tmps,E.ds⟩) hi hf hx
 simp only[RV]at h1
 obtain⟨u,us,rfl,h3,rfl⟩:=h1
 rcases h2 with ⟨h2,_⟩|⟨_,v,hv,h2⟩
 ·cases h2
 ·cases hv
  refine⟨u,?_,h3⟩
  have hrun:(Instr.typeAssert (.iface t u) T0 t false).run E.P w=.ok u w:=by
   unfold Program.concrete at hc
   rw[hd]at hc
   cases d <;> first|(simp at hc;done)|simp[Instr.typeAssert,run_underlying hd]
  unfold execOp
  simp[ho,h2,hrun]
theorem AStep.nePtr{i j:Id}{cs ds:List AC}{tj:TI}(hT:TabOk E.P E.T)(ht:E.P.underlying t=some (.pointer el))(htj:Tab.get el E.T=some tj)(hsz:Nat.beq tj.size 0=false)(ho:o.op=.binOp .neq t x y yt)(hx:aEval E.Γ fr x=some (.one (.ptr i 0)))(hy:aEval E.Γ fr y=some (.one (.ptr j 0)))
  (hi1:σ.get i=some (.cells cs)) (hj1:σ.get j=some (.cells ds)) (hne:i≠j):AStep E o fr σ (.one (.lit (.bool true))) σ:=by
 refine AStep.quiet fun F w C tmps hi hf=>⟨.bool true,?_,rfl,rfl⟩
 have h1:=Q00 (a:=⟨tmps,E.ds⟩) hi hf hx
 have h2:=Q00 (a:=⟨tmps,E.ds⟩) hi hf hy
 simp only[RF,R]at h1 h2
 obtain⟨xs,T,b1,_⟩:=(hi.obj i _ hi1).2
 obtain⟨ys,T',b2,_⟩:=(hi.obj j _ hj1).2
 obtain⟨inf,d,z,hte,_,hz3,_⟩:=(hT _ _ htj).ex
 have hsz:inf.size≠0:=fun e=>by rw[hz3]at e;rw[e]at hsz;cases hsz
 have hb:C.blk i≠C.blk j:=fun e=>hne (hi.inj i j _ _ (C.blk i) hi1 hj1 rfl (by simp only[AObj.block];rw[e]))
 have h:∀d:Nat,(Op.equalIn (d+1) t (.pointer (some ⟨C.blk i,0,none⟩)) (.pointer (some ⟨C.blk j,0,none⟩))).run E.P w=.ok false w:=fun d=>by
  simp[Op.equalIn,run_underlying ht,sizeOf,typeInfo,hte,hsz,run_sameAddr_other w (a:=⟨C.blk i,0,none⟩) (b:=⟨C.blk j,0,none⟩) (fun e=>hb (congrArg Addr.block e)) b1 b2]
 unfold execOp
 simp only[ho,h1.2,h2.2,eqGuard_at_pointer,Sem.run_bind,Sem.run_pure,Result.andThen_ok]
 simp[binOp,Op.equal,Op.maxDepth,h 9999]
theorem AStep.neSame{i:Id}{tj:TI}(hT:TabOk E.P E.T)(ht:E.P.underlying t=some (.pointer el))(htj:Tab.get el E.T=some tj)(ho:o.op=.binOp .neq t x y yt)(hx:aEval E.Γ fr x=some (.one (.ptr i 0)))(hy:aEval E.Γ fr y=some (.one (.ptr i 0))):AStep E o fr σ (.one (.lit (.bool false))) σ:=by
 refine AStep.quiet fun F w C tmps hi hf=>⟨.bool false,?_,rfl,rfl⟩
 have h1:=Q00 (a:=⟨tmps,E.ds⟩) hi hf hx
 have h2:=Q00 (a:=⟨tmps,E.ds⟩) hi hf hy
 simp only[RF,R]at h1 h2
 obtain⟨inf,d,z,hte,_⟩:=(hT _ _ htj).ex
 have h:∀d:Nat,(Op.equalIn (d+1) t (.pointer (some ⟨C.blk i,0,none⟩)) (.pointer (some ⟨C.blk i,0,none⟩))).run E.P w=.ok true w:=fun d=>by
  simp[Op.equalIn,run_underlying ht,sizeOf,typeInfo,hte,run_sameAddr_same]
 unfold execOp
 simp only[ho,h1.2,h2.2,eqGuard_at_pointer,Sem.run_bind,Sem.run_pure,Result.andThen_ok]
 simp[binOp,Op.equal,Op.maxDepth,h 9999]
end
end Go.Abs
namespace Go.Proofs.YtkgjldchcbfpnaaGreatDoor
open Go Go.Abs Go.CoreX
variable {Γ:List (Nat×List AC)}
section
variable {fu:Int}{fc:FcT}{fns:List Fun}{ou:Outer}{H:Hm}{nm:Nm2}{m:Ms}{ec vc kc:AC}{t:Tr}{e:En}
theorem StQ.fin{E:Env}{fn:Func}{fr:Fr}{σ:St}{H':Hm}{nm':Nm2}{x:Except Int Ms}{m':Ms}(h:aRes E.T fr σ fn.results.toList=some unitF)(hx:x=.ok m')(hm:Mo H nm H' nm')(hM:MR fu fc σ.ou H' nm' m'):Fin E fn (StQ fu fc H nm x) fr σ:=
 AFn.fin' h (WkF.refl _) (by simp[unitF]) hM.ok ⟨rfl,H',nm',m',hx,hm,hM⟩
def Q51 (fu:Int)(fc:FcT)(ou:Outer)(H:Hm)(nm:Nm2)(m':Ms)(Γ:List (Nat×List AC)):Prop:=AFn Tryz.prog Γ 88 [.one (.ptr (.o 0) 0)] ou (StQ fu fc H nm (.ok m'))
theorem Qi3(hΓ:∀g cs,(g,cs)∈Γ->idsL isO cs)(h0:M0 fu fc ou H nm m (.box (cTr t)) ec vc kc)(hfc:fc.ids isO)(hk:KR H nm m.k kc)(h1:t.op=1):Q51 fu fc ou H nm { m with c:=.rt (.word t.n) } Γ:=by
 unfold Q51
 have hoX:=h0.ouX
 rw[hoX]
 have hw:=h0.w
 rw[hoX]at hw
 generalize hmc:ou=ou0 at hw
 clear hoX
 refine AFn.walk 149 tabOk Tryz.func88 rfl (by kernel_rfl) rfl rfl fun hou=>?_
 cases t with
 |mk to tn tb tk ta=>
 obtain rfl:to=1:=h1
 refine zA ?_
 refine zS (AStep.mkIfc conc3 rfl rfl) ?_
 refine zA ?_
 exact StQ.fin rfl rfl (.refl _ _) (MR.ofRt hw (.word tn) hk h0.ids.2.1 hfc rfl rfl (fun _=>rfl))
theorem Qi2(hΓ:∀g cs,(g,cs)∈Γ->idsL isO cs)(h0:M0 fu fc ou H nm m (.box (cTr t)) ec vc kc)(hfc:fc.ids isO)(he:ER H nm e ec)(hk:KR H nm m.k kc)(h1:t.op=2):Q51 fu fc ou H nm { m with c:=.rt (.clo t e) } Γ:=by
 unfold Q51
 have hei:=he.ids
 have hoX:=h0.ouX
 rw[hoX]
 have hw:=h0.w
 rw[hoX]at hw
 generalize hmc:ou=ou0 at hw
 clear hoX
 refine AFn.walk 149 tabOk Tryz.func88 rfl (by kernel_rfl) rfl rfl fun hou=>?_
 cases t with
 |mk to tn tb tk ta=>
 obtain rfl:to=2:=h1
 repeat ((fail_if_success ((with_reducible refine oj ?_);refine AOps.atDst 69 rfl ?_));first|refine zO ?_)
 refine AOps.freeze1 (.l 0) 68 rfl rfl ?_
 refine zS (AStep.mkIfc Q4y rfl rfl) ?_
 refine zA ?_
 exact StQ.fin rfl rfl (.refl _ _) (MR.ofRt hw (.clo _ e ec he) hk h0.ids.2.1 hfc rfl rfl (fun _=>rfl))
theorem Qi0(hΓ:∀g cs,(g,cs)∈Γ->idsL isO cs)(h0:M0 fu fc ou H nm m (.box (cTr t)) ec vc kc)(hfc:fc.ids isO)(he:ER H nm e ec)(hk:KR H nm m.k kc)(h1:t.op=0):Q51 fu fc ou H nm { m with c:=.rt (findE t.n e) } Γ:=by
 unfold Q51
 have hei:=he.ids
 have hki:=hk.ids
 have hoX:=h0.ouX
 rw[hoX]
 have hw:=h0.w
 rw[hoX]at hw
 generalize hmc:ou=ou0 at hw
 clear hoX
 obtain⟨l,hch,hfd⟩:=he.ch
 have hv:=hfd t.n
 have hvi:=hv.ids
 refine AFn.walk 149 tabOk Tryz.func88 rfl (by kernel_rfl) rfl rfl fun hou=>?_
 cases t with
 |mk to tn tb tk ta=>
 obtain rfl:to=0:=h1
 have hw1:WR (ouX (mC nilPE ec vc kc m.out m.steps fu fc) m.out.length ou0) H nm m.heap:=hw.put (by simp[mC,h0.ids.2.2.1,hei,hki,hfc,nilPE]) rfl rfl (fun _=>rfl)
 refine zA ?_
 refine ACode.drawSt tabOk 14 13 [(10,.one (lookI tn l))] _ follows (by kernel_rfl) rfl rfl (by kernel_rfl) rfl ?_ rfl rfl rfl rfl ?_ ?_ (AStep.ofStore tabOk rfl) ?_
 ·rfl
 ·exact⟨⟨_,rfl,AStep.callE hΓ rfl rfl rfl rfl ⟨hei,trivial,trivial⟩ hou (Qk5 hΓ hch tn _ hw.inO hei hvi)⟩,trivial⟩
 ·show Q0b _ _ _ (St.set ⟨0,[],ouX (mC (.box (cTr (.mk 0 tn tb tk ta))) ec vc kc m.out m.steps fu fc) m.out.length ou0⟩ (.o 0) (.cells (mC nilPE ec vc kc m.out m.steps fu fc))) _ _
  rw[setX]
  exact⟨⟨_,rfl,AStep.callE hΓ rfl rfl rfl rfl ⟨hei,trivial,trivial⟩ hw1.ok (Qk5 hΓ hch tn _ hw1.inO hei hvi)⟩,trivial⟩
 refine zA ?_
 exact StQ.fin rfl rfl (.refl _ _) (MR.ofRt hw hv hk hei hfc rfl rfl (fun _=>rfl))
end
end Go.Proofs.YtkgjldchcbfpnaaGreatDoor
namespace Go.Abs
theorem CedFrN.consP{js:List Nat}{kk k:Nat}{y:FV}{fr r:Fr}(h:Fr.get k fr=some y)(hy:y.ids isO)(hr:CedFrN (toOs js kk) fr r):CedFrN (toOs js kk) fr ((k,y)::r):=
 .cons h (FV.sub_f (fun i hi=>by cases i with|l q=>exact hi.elim|o q=>rfl) y hy) hr
end Go.Abs
namespace Go.Proofs.YtkgjldchcbfpnaaGreatDoor
open Go Go.Abs Go.CoreX
variable {Γ:List (Nat×List AC)}
def recC (base:AC):List (Nat×Nat)->AC
 |[]=>base
 |(k,_)::_=>.ptr (.o k) 0
def clC (t:Tr)(i r:Nat)(top:AC):List AC:=[.box (cTr (t.kids.getD i default)),if i < r then nilPE else top]
def RecO (t:Tr)(base top:AC)(r:Nat)(ou:Outer):List (Nat×Nat)->Prop
 |[]=>True
 |(k,q)::l=>ou k=some (.cells [int (t.binds.getD l.length 0),.ifc tClo false [.ptr (.o q) 0],recC base l])/\ou q=some (.cells (clC t l.length r top))/\RecO t base top r ou l
def nms:List (Nat×Nat)->List Nat
 |[]=>[]
 |(k,q)::l=>k::q::nms l
theorem Qax(a b:List (Nat×Nat)):nms (a++b)=nms a++nms b:=by
 induction a with
 |nil=>rfl
 |cons x a ih=>obtain⟨k,q⟩:=x;simp[nms,ih]
structure RecI (t:Tr)(base top:AC)(r:Nat)(L:List (Nat×Nat))(ou0 ou:Outer):Prop where
 o:RecO t base top r ou L
 nd:(nms L).Nodup
 new:∀k∈nms L,ou0 k=none
 old:∀k,k∉nms L->ou k=ou0 k
 ok:OuOk ou
section
variable {t:Tr}{base top:AC}
theorem Qf4(hb:base.ids isO):∀L:List (Nat×Nat),(recC base L).ids isO
 |[]=>hb
 |(k,q)::l=>trivial
theorem RecO.chg{r r':Nat}{ou ou':Outer}:∀{L:List (Nat×Nat)},RecO t base top r ou L->(∀k∈nms L,ou' k=ou k)->(∀i,i < L.length->(i < r↔i < r'))->RecO t base top r' ou' L
 |[],_,_,_=>trivial
 |(k,q)::l,⟨h1,h2,h3⟩,h,hr=>by
  refine⟨by rw[h k (by simp[nms])];exact h1,?_,RecO.chg h3 (fun j hj=>h j (by simp[nms,hj])) fun i hi=>hr i (by simp;omega)⟩
  rw[h q (by simp[nms]),h2]
  have:=hr l.length (by simp)
  unfold clC
  simp only[this]
theorem RecO.setTop{r r':Nat}{ou:Outer}(top':AC):∀{L:List (Nat×Nat)},RecO t base top r ou L->L.length<=r->L.length<=r'->RecO t base top' r' ou L
 |[],_,_,_=>trivial
 |(k,q)::l,⟨h1,h2,h3⟩,hr,hr'=>by
  simp only[List.length_cons]at hr hr'
  refine⟨h1,?_,RecO.setTop top' h3 (by omega) (by omega)⟩
  rw[h2]
  unfold clC
  rw[if_pos (by omega),if_pos (by omega)]
theorem RecO.hasC{r:Nat}{ou:Outer}:∀{L:List (Nat×Nat)},RecO t base top r ou L->∀k∈nms L,∃cs,ou k=some (.cells cs)
 |(k,q)::l,⟨h1,h2,h3⟩,j,hj=>by
  simp only[nms,List.mem_cons]at hj
  rcases hj with rfl|rfl|hj
  ·exact⟨_,h1⟩
  ·exact⟨_,h2⟩
  ·exact RecO.hasC h3 j hj
theorem RecO.split{r:Nat}{ou:Outer}:∀{a b:List (Nat×Nat)},RecO t base top r ou (a++b)->RecO t base top r ou b
 |[],b,h=>h
 |(k,q)::a,b,h=>RecO.split (a:=a) h.2.2
theorem RecO.chain{H':Hm}{ou:Outer}:∀{L:List (Nat×Nat)},RecO t base top 0 ou L->(∀k∈nms L,∀cs,ou k=some (.cells cs)->H' k=some cs)->RecC H' t top L.length (recC base L) base
 |[],_,_=>.zero _
 |(k,q)::l,⟨h1,h2,h3⟩,h=>by
  refine .succ l.length k q (recC base l) base (h k (by simp[nms]) _ h1) ?_ (RecO.chain h3 fun j hj=>h j (by simp[nms,hj]))
  have:=h q (by simp[nms]) _ h2
  simpa[clC]using this
theorem RecO.tie{k q:Nat}{l:List (Nat×Nat)}{ou ou':Outer}(hq:ou' q=some (.cells [.box (cTr (t.kids.getD l.length default)),top]))(ho:∀m,m≠q->ou' m=ou m):∀{a:List (Nat×Nat)},RecO t base top (l.length+1) ou (a++(k,q)::l)->(nms (a++(k,q)::l)).Nodup->RecO t base top l.length ou' (a++(k,q)::l)
 |[],⟨h1,h2,h3⟩,hn=>by
  simp only[List.nil_append,nms,List.nodup_cons,List.mem_cons]at hn
  refine⟨by rw[ho k (by rintro rfl;exact hn.1 (.inl rfl))];exact h1,by rw[hq];simp[clC],RecO.chg h3 (fun j hj=>ho j (by rintro rfl;exact hn.2.1 hj)) fun i hi=>by omega⟩
 |(k0,q0)::a,⟨h1,h2,h3⟩,hn=>by
  simp only[List.cons_append,nms,List.nodup_cons,List.mem_cons]at hn
  have hqm:q∈nms (a++(k,q)::l):=by rw[Qax];simp[nms]
  refine⟨by rw[ho k0 (by rintro rfl;exact hn.1 (.inr hqm))];exact h1,?_,RecO.tie hq ho h3 hn.2.2⟩
  rw[ho q0 (by rintro rfl;exact hn.2.1 hqm),h2]
  unfold clC
  have hl:(a++(k,q)::l).length=a.length+l.length+1:=by simp;omega
  simp only[List.append_eq,hl]
  rw[if_neg (by omega),if_neg (by omega)]
theorem RecI.tie{k q:Nat}{l a:List (Nat×Nat)}{ou0 ou ou':Outer}(h:RecI t base top (l.length+1) (a++(k,q)::l) ou0 ou)(hq:ou' q=some (.cells [.box (cTr (t.kids.getD l.length default)),top]))(ho:∀m,m≠q->ou' m=ou m)(ht:top.ids isO):RecI t base top l.length (a++(k,q)::l) ou0 ou':=by
 have hqm:q∈nms (a++(k,q)::l):=by rw[Qax];simp[nms]
 refine⟨h.o.tie hq ho h.nd,h.nd,h.new,fun j hj=>?_,fun j o hj=>?_⟩
 ·rw[ho j (by rintro rfl;exact hj hqm)];exact h.old j hj
 ·by_cases e:j=q
  ·subst e;rw[hq]at hj;cases hj;exact⟨by simp,ht,trivial⟩
  ·rw[ho j e]at hj;exact h.ok j o hj
theorem RecI.add{k q r:Nat}{L:List (Nat×Nat)}{ou0 ou ou1 ou2:Outer}{s:Tr}{x:Int}(h:RecI t base top r L ou0 ou)(hr:L.length < r)(hs:t.kids.getD L.length default=s)(hx:t.binds.getD L.length 0=x)(hN1:NewO ou ou1 [(q,.cells [.box (cTr s),nilPE])])(hN2:NewO ou1 ou2 [(k,.cells [int x,.ifc tClo false [.ptr (.o q) 0],recC base L])]):RecI t base top r ((k,q)::L) ou0 ou2:=by
 have hq0:ou q=none:=hN1.new q (by simp[keys])
 have hq1:ou1 q=some (.cells [.box (cTr s),nilPE]):=hN1.own (q,_) (by simp)
 have hk1:ou1 k=none:=hN2.new k (by simp[keys])
 have hk2:ou2 k=some (.cells [int x,.ifc tClo false [.ptr (.o q) 0],recC base L]):=hN2.own (k,_) (by simp)
 have hkq:k≠q:=by rintro rfl;rw[hq1]at hk1;cases hk1
 have hk0:ou k=none:=by rw[←hN1.old k (by simp[keys];exact hkq)];exact hk1
 have hqL:q∉nms L:=fun hm=>by obtain⟨cs,hc⟩:=h.o.hasC q hm;rw[hq0]at hc;cases hc
 have hkL:k∉nms L:=fun hm=>by obtain⟨cs,hc⟩:=h.o.hasC k hm;rw[hk0]at hc;cases hc
 have hold:∀m,m≠k->m≠q->ou2 m=ou m:=fun m h1 h2=>by rw[hN2.old m (by simp[keys];exact h1),hN1.old m (by simp[keys];exact h2)]
 refine⟨⟨by rw[hx];exact hk2,?_,h.o.chg (fun j hj=>hold j (by rintro rfl;exact hkL hj) (by rintro rfl;exact hqL hj)) fun _ _=>Iff.rfl⟩,?_,?_,?_,hN2.ok⟩
 ·rw[hN2.old q (by simp[keys];exact fun e=>hkq e.symm),hq1]
  unfold clC
  rw[if_pos hr,hs]
 ·simp only[nms,List.nodup_cons,List.mem_cons]
  exact⟨fun e=>e.elim hkq hkL,hqL,h.nd⟩
 ·intro j hj
  simp only[nms,List.mem_cons]at hj
  rcases hj with rfl|rfl|hj
  ·rw[←h.old j hkL];exact hk0
  ·rw[←h.old j hqL];exact hq0
  ·exact h.new j hj
 ·intro j hj
  simp only[nms,List.mem_cons,not_or]at hj
  rw[hold j hj.1 hj.2.1];exact h.old j hj.2.2
def recH (H:Hm)(ou:Outer)(L:List (Nat×Nat)):Hm:=fun k=>if k∈nms L then (match ou k with|some (.cells cs)=>some cs|_=>none)else H k
theorem RecI.gro{L:List (Nat×Nat)}{ou0 ou:Outer}{H:Hm}(h:RecI t base top 0 L ou0 ou)(hH:InOu H ou0):Gro ou0 H ou (recH H ou L):=by
 have hno:∀k cs,H k=some cs->k∉nms L:=fun k cs hk hm=>by have:=hH k cs hk;rw[h.new k hm]at this;cases this
 refine⟨fun k cs hk=>?_,fun k h1 h2=>?_,fun k o hk=>?_,fun k cs hk=>?_,h.ok,fun k o hk=>?_⟩
 ·unfold recH;rw[if_neg (hno k cs hk)];exact hk
 ·unfold recH at h2
  split at h2
  ·rename_i hm;exact h.new k hm
  ·exact absurd h1 h2
 ·rw[h.old k (fun hm=>by rw[h.new k hm]at hk;cases hk)];exact hk
 ·unfold recH at hk
  split at hk
  ·split at hk
   ·rename_i hc;cases hk;exact hc
   ·cases hk
  ·rename_i hm;rw[h.old k hm];exact hH k cs hk
 ·by_cases hm:k∈nms L
  ·obtain⟨cs,hc⟩:=h.o.hasC k hm
   rw[hc]at hk;cases hk;exact .inr trivial
  ·rw[h.old k hm]at hk;exact .inl hk
end
section
variable {fu:Int}{fc:FcT}{fns:List Fun}{ou:Outer}{H:Hm}{nm:Nm2}{m:Ms}{ec vc kc:AC}{t:Tr}{e:En}
theorem Qi1(hΓ:∀g cs,(g,cs)∈Γ->idsL isO cs)(h0:M0 fu fc ou H nm m (.box (cTr t)) ec vc kc)(hfc:fc.ids isO)(he:ER H nm e ec)(hk:KR H nm m.k kc)(h1:t.op=5)(hkl:t.kids.length=t.binds.length+1)(hb20:t.binds.length<=1048576):
  Q51 fu fc ou H nm { m with c:=.ev (t.kids.getD t.binds.length default) (.recs t e) } Γ:=by
 unfold Q51
 have hei:=he.ids
 have hki:=hk.ids
 have hoX:=h0.ouX
 rw[hoX]
 have hw:=h0.w
 rw[hoX]at hw
 generalize hmc:ou=ou0 at hw
 clear hoX
 obtain⟨le,hche,_⟩:=he.ch
 cases t with
 |mk to tn tb tk ta=>
 obtain rfl:to=5:=h1
 simp only[Tr.kids,Tr.binds]at hkl hb20 ⊢
 obtain⟨T,hT⟩:∃T,T=Tr.mk 5 tn tb tk ta:=⟨_,rfl⟩
 have hTk:T.kids=tk:=by rw[hT];rfl
 have hTb:T.binds=tb:=by rw[hT];rfl
 refine AFn.walk 149 tabOk Tryz.func88 rfl (by kernel_rfl) rfl rfl fun hou=>?_
 obtain⟨oB,hoB⟩:∃oB,oB=ouX (mC (.box (cTr (.mk 5 tn tb tk ta))) ec vc kc m.out m.steps fu fc) m.out.length ou0:=⟨_,rfl⟩
 have hB0:oB 0=some (.cells (mC (.box (cTr (.mk 5 tn tb tk ta))) ec vc kc m.out m.steps fu fc)):=by rw[hoB];rfl
 have hwB:WR oB H nm m.heap:=by rw[hoB];exact hw
 refine zA ?_
 refine ACode.loopR hΓ (α:=Nat×List (Nat×Nat)×Outer) (fun a=>[(93,.one (int a.1)),(92,.one (int (tb.map cI).length)),(91,.one (.sl 1 (tb.map cI))),(3,.one (recC ec a.2.1)),(2,.one (.box (cTr (.mk 5 tn tb tk ta)))),(0,.one (.ptr (.o 0) 0))])
  (fun a=>⟨0,[],a.2.2⟩) (fun n a=>a.1<=tb.length/\a.2.1.length=a.1/\RecI T ec ec tb.length a.2.1 oB a.2.2/\n=tb.length - a.1) (a0:=(0,[],oB)) (ρ:=_root_.id) ⟨by simp,rfl,⟨trivial,by simp[nms],by simp[nms],fun _ _=>rfl,hwB.ok⟩,rfl⟩
  (LessR.of rfl zFW (by simp[recC,Q32 hei]) zLO rfl (by rw[hoB]) (by rw[hoB]at hwB;exact hwB.ok)) fun n a ha=>?_
 obtain⟨j,L,ou1⟩:=a
 obtain⟨hj,hL,hI,rfl⟩:=ha
 dsimp only at hj hL hI ⊢
 have hou1:=hI.ok
 have hri:(recC ec L).ids isO:=Qf4 hei L
 refine zA ?_
 refine ACode.cond rfl (fun hb2=>?_) (fun hb2=>?_)
 ·have hlt:j < tb.length:=by simpa using hb2
  clear hb2
  obtain⟨x,hx⟩:=Q01 hlt
  obtain⟨s,hs⟩:=Q01 (l:=tk) (i:=j) (by omega)
  refine zA ?_
  refine zS (zIA rfl rfl rfl (by omega) (Q06 hx)) ?_
  refine zA ?_
  refine zS (zIA rfl rfl rfl (by omega) (Q0u hs)) ?_
  repeat ((fail_if_success ((with_reducible refine oj ?_);refine AOps.atDst 109 rfl ?_));first|refine zO ?_)
  refine AOps.cedes [0] rfl (by decide) hou1 fun q hq=>⟨[(108,.one (.ptr (.o q) 0)),(99,.one (int x)),(98,.one (recC ec L)),(93,.one (int j)),(92,.one (int (tb.map cI).length)),(91,.one (.sl 1 (tb.map cI))),(2,.one (.box (cTr (.mk 5 tn tb tk ta)))),(0,.one (.ptr (.o 0) 0))],[],[.cells [.box (cTr s),nilPE]],?_,.nil,?_,?_⟩
  ·exact .cons rfl rfl (.cons rfl rfl (.consP rfl hri (.cons rfl rfl (.cons rfl rfl (.consP rfl (by simp) (.consP rfl (by simp) (.cons rfl rfl .nil)))))))
  ·exact .cons rfl (AObj.sub_f (fun i hi=>by cases i with|l q=>exact hi.elim|o q=>rfl) _ ⟨by simp,trivial,trivial⟩) .nil
  have hN1:=NewO.add hq hou1 (show (AObj.cells [.box (cTr s),nilPE]).ids isO from ⟨by simp,trivial,trivial⟩)
  refine zS (AStep.mkIfc Q4y rfl rfl) ?_
  refine AOps.call1 hΓ rfl rfl rfl rfl rfl rfl rfl ⟨hri,trivial,⟨trivial,trivial⟩,trivial⟩ hN1.ok (Qdc x (.ifc tClo false [.ptr (.o q) 0]) (recC ec L) ⟨trivial,trivial⟩ hri _) fun r ou2 hq2 _ hou2=>?_
  obtain⟨k,rfl,hN2⟩:=hq2
  have hI2:RecI T ec ec tb.length ((k,q)::L) oB ou2:=hI.add (by omega) (by rw[hTk,hL,List.getD_eq_getElem?_getD,hs];rfl) (by rw[hTb,hL,List.getD_eq_getElem?_getD,hx];rfl) hN1 hN2
  refine zM ?_
  exact cInv ⟨tb.length - (j+1),(j+1,(k,q)::L,ou2),_root_.id,by omega,⟨by omega,by simp[hL],hI2,rfl⟩,LessR.of rfl zFW (by simp[recC]) zLO rfl rfl hou2⟩
 ·have hlt:j=tb.length:=by simp at hb2;omega
  subst hlt
  clear hb2
  obtain⟨tp,htp⟩:∃tp,tp=recC ec L:=⟨_,rfl⟩
  have hti:tp.ids isO:=by rw[htp];exact hri
  have hI0:RecI T ec tp L.length L oB ou1:=⟨hI.o.setTop tp (by omega) (by omega),hI.nd,hI.new,hI.old,hI.ok⟩
  refine zA ?_
  refine ACode.loopR hΓ (α:=List (Nat×Nat)×List (Nat×Nat)×Outer) (fun a=>[(6,.one (recC ec a.2.1)),(3,.one tp),(2,.one (.box (cTr (.mk 5 tn tb tk ta)))),(0,.one (.ptr (.o 0) 0))])
   (fun a=>⟨0,[],a.2.2⟩) (fun n a=>a.1++a.2.1=L/\RecI T ec tp a.2.1.length L oB a.2.2/\n=a.2.1.length) (a0:=([],L,ou1)) (ρ:=_root_.id) ⟨rfl,hI0,rfl⟩
   (LessR.of rfl (by rw[htp];(repeat' first|exact FrSub.nil|refine zfc ?_|refine zfo ?_|refine zfp ?_ (hp:=by first|assumption|(simp;done)))) (by simp[Q32 hri,Q32 hti]) zLO rfl rfl hou1) fun n a ha=>?_
  obtain⟨A,l,ou3⟩:=a
  obtain⟨hA,hI3,rfl⟩:=ha
  dsimp only at hA hI3 ⊢
  have hou3:=hI3.ok
  have hx0:ou3 0=some (.cells (mC (.box (cTr (.mk 5 tn tb tk ta))) ec vc kc m.out m.steps fu fc)):=by
   rw[hI3.old 0 (fun hm=>by have:=hI3.new 0 hm;rw[hB0]at this;cases this)];exact hB0
  have e3:=Qc6 (n:=m.out.length) hx0
  have hI3o:RecO T ec tp l.length ou3 (A++l):=by rw[hA];exact hI3.o
  have hneq:∀{E:Env}{o:Oper}{fr:Fr}{x y:Operand}{yt:TypeId},E.P=Tryz.prog->TabOk E.P E.T->(∃tj,Tab.get 202 E.T=some tj/\Nat.beq tj.size 0=false)->o.op=.binOp .neq 67 x y yt->aEval E.Γ fr x=some (.one (recC ec l))->aEval E.Γ fr y=some (.one ec)->AStep E o fr ⟨0,[],ou3⟩ (.one (.lit (.bool (!l.isEmpty)))) ⟨0,[],ou3⟩:=by
   intro E o fr x y yt hP hTb ⟨tj,htj,hsz⟩ ho hx hy
   have hu:E.P.underlying 67=some (.pointer 202):=by rw[hP];exact Tryz.underlying67
   cases l with
   |nil=>cases hche with
    |nil=>exact AStep.neNil0 hu ho hx hy
    |cons i k0 vc0 nc l0 hk0 hch=>exact AStep.neSame hTb hu htj ho hx hy
   |cons p l=>
    obtain⟨k,q⟩:=p
    have hkO:=(hI3o.split).1
    cases hche with
    |nil=>exact AStep.neNil hu ho hx hy
    |cons i k0 vc0 nc l0 hk0 hch=>
     have hk0B:=hwB.inO k0 _ hk0
     have hk0n:k0∉nms L:=fun hm=>by have:=hI3.new k0 hm;rw[hk0B]at this;cases this
     have hkm:k∈nms L:=by rw[←hA,Qax];simp[nms]
     exact AStep.nePtr hTb hu htj hsz ho hx hy hkO (show ou3 k0=_ by rw[hI3.old k0 hk0n];exact hk0B) (fun e=>by cases e;exact hk0n hkm)
  cases l with
  |nil=>
   rw[List.append_nil]at hA
   subst hA
   repeat' first|refine zN ?_|((with_reducible refine oj ?_);first|refine zix ?_|refine zow rfl rfl hx0 ?_)
   refine zS (hneq rfl tabOk ⟨_,rfl,rfl⟩ rfl rfl rfl) ?_
   obtain⟨s,hs⟩:=Q01 (l:=tk) (i:=tb.length) (by omega)
   have hix:(Q0v tk)[((tb.map cI).length:Int).toNat]?=some [.box (cTr s)]:=by simpa[cB]using Q0u hs
   have hgd:tk.getD tb.length default=s:=by rw[List.getD_eq_getElem?_getD,hs];rfl
   rw[e3]
   refine zA ?_
   refine ACode.drawSt tabOk 17 16 [(11,.one (.box [.box (cTr s)]))] _ follows (by kernel_rfl) rfl rfl (by kernel_rfl) rfl ?_ rfl rfl rfl rfl ?_ ?_ (AStep.ofStore tabOk rfl) ?_
   ·rfl
   ·exact⟨⟨_,rfl,zIA rfl rfl rfl (by omega) hix⟩,trivial⟩
   ·exact⟨⟨_,rfl,zIA rfl rfl rfl (by omega) hix⟩,trivial⟩
   refine zA ?_
   have hg:=hI3.gro hwB.inO
   have hw3:WR (ouX (mC (.box (cTr (.mk 5 tn tb tk ta))) ec vc kc m.out m.steps fu fc) m.out.length ou3) (recH H ou3 A) nm m.heap:=by rw[←e3];exact hwB.gro hg (by rw[hB0];simp) trivial
   have hrc:RecC (recH H ou3 A) T tp A.length (recC ec A) ec:=hI3.o.chain fun k hk cs hc=>by unfold recH;rw[if_pos hk,hc]
   have hAl:A.length=T.binds.length:=by rw[hTb];exact hL
   rw[hAl,←htp]at hrc
   rw[hgd]
   refine StQ.fin rfl rfl (hg.mo nm) (MR.ofEv (e:=.recs (.mk 5 tn tb tk ta) e) hw3 ?_ (hk.mo (hg.mo nm)) h0.ids.2.2.1 hfc rfl rfl (fun _=>rfl))
   rw[←hT]
   exact .recs T e tp ec hrc (he.mo (hg.mo nm))
  |cons p l=>
   obtain⟨k,q⟩:=p
   have hkO:=(hI3o.split)
   obtain⟨hkc,hqc,_⟩:=hkO
   have hnd:=hI3.nd
   rw[←hA]at hnd
   have hkq:k≠q:=by
    rw[Qax,List.nodup_append]at hnd
    have:=hnd.2.1
    simp only[nms,List.nodup_cons,List.mem_cons,not_or]at this
    exact this.1.1
   have hri2:(recC ec l).ids isO:=Qf4 hei l
   repeat' first|refine zN ?_|((with_reducible refine oj ?_);first|refine zix ?_|refine zow rfl rfl hx0 ?_)
   refine zS (hneq rfl tabOk ⟨_,rfl,rfl⟩ rfl rfl rfl) ?_
   repeat' first|refine zN ?_|((with_reducible refine oj ?_);first|refine zix ?_|refine zow rfl rfl hkc ?_)
   refine zS (AStep.assert1 Q4y rfl rfl) ?_
   refine zA ?_
   refine AOps.storeOwn tabOk rfl rfl rfl rfl rfl rfl rfl hqc (by simp[clC]) ?_
   obtain⟨ou4,hou4⟩:∃ou4:Outer,ou4=(St.set ⟨0,[],ou3⟩ (.o q) (.cells ((clC T l.length (l.length+1) tp).set 1 tp))).ou:=⟨_,rfl⟩
   have hσ:St.set ⟨0,[],ou3⟩ (.o q) (.cells ((clC T l.length (l.length+1) tp).set 1 tp))=⟨0,[],ou4⟩:=by rw[hou4];rfl
   have h4q:ou4 q=some (.cells [.box (cTr (T.kids.getD l.length default)),tp]):=by rw[hou4];simp[St.set,clC]
   have h4o:∀m,m≠q->ou4 m=ou3 m:=fun m hm=>by rw[hou4];simp[St.set,Q07 hm]
   have hI4:RecI T ec tp l.length (A++(k,q)::l) oB ou4:=RecI.tie (by rw[hA];exact hI3) h4q h4o hti
   have hkc4:ou4 k=some (.cells [int (T.binds.getD l.length 0),.ifc tClo false [.ptr (.o q) 0],recC ec l]):=by rw[h4o k hkq];exact hkc
   refine AOps.stEq hσ ?_
   repeat' first|refine zN ?_|((with_reducible refine oj ?_);first|refine zix ?_|refine zow rfl rfl hkc4 ?_)
   exact cInv ⟨l.length,(A++[(k,q)],l,ou4),_root_.id,by simp,⟨by simpa using hA,by rw[hA]at hI4;exact hI4,rfl⟩,LessR.of rfl zFW (by simp[Q32 hri2,Q32 hti]) zLO rfl rfl hI4.ok⟩
end
end Go.Proofs.YtkgjldchcbfpnaaGreatDoor
namespace Go.Abs
theorem CedFrN.gs{js:List Nat}{kk k j k' s:Nat}{es:List (List AC)}{fr r:Fr}(h:Fr.get k fr=some (.one (.gs s es (.l j))))(hes:idsS isO es)(hj:toOs js kk (.l j)=.o k')(hr:CedFrN (toOs js kk) fr r):CedFrN (toOs js kk) fr ((k,.one (.gs s es (.o k')))::r):=
 .cons h (by simp only[FV.sub,AC.sub];rw[hj,Qby (fun i hi=>by cases i with|l q=>exact hi.elim|o q=>rfl) es hes]) hr
end Go.Abs
namespace Go.Proofs.YtkgjldchcbfpnaaGreatDoor
open Go Go.Abs Go.CoreX
variable {Γ:List (Nat×List AC)}
section
variable {fu:Int}{fc:FcT}{fns:List Fun}{ou:Outer}{H:Hm}{nm:Nm2}{m:Ms}{tc ec vc kc:AC}{t:Tr}{e:En}
def PlQ (fu:Int)(fc:FcT)(H:Hm)(nm:Nm2)(m1:Ms)(v:Vl)(tc ec vc kc:AC):FV->Outer->Prop:=fun r ou'=>∃kt H1 nm1 c,r=.one c/\Mo H nm H1 nm1/\VR H1 nm1 v c/\M0 fu ⟨fc.ac,kt⟩ ou' H1 nm1 m1 tc ec vc kc
theorem WR.reTok{mc mc':List AC}{n kt kt':Nat}{es es':List (List AC)}{ou0 ou':Outer}{heap:List (List Vl)}(w:WR (ouX mc n ou0) H nm heap)(hmc:mc[4]?=some (.gs 1 es (.o kt)))(hi:idsL isO mc')(hmc':mc'[4]?=some (.gs 1 es' (.o kt')))(h0:ou' 0=some (.cells mc'))(hk0:ouX mc n ou0 kt'=none)(h1:ou' kt'=some (.tok 3 1 es'.length))(hd:ou' kt=some .dead)(ho:∀k,1<=k->k≠kt->k≠kt'->ou' k=ou0 k):WR ou' H nm heap:=by
 obtain⟨kt2,e1,e2,e3,e4,e5⟩:=w.tk mc rfl _ _ hmc
 cases e1
 have hk1:1<=kt':=by
  match kt',hk0 with
  |0,h=>cases h
  |k+1,_=>omega
 have e:∀k,1<=k->k≠kt->k≠kt'->ou' k=ouX mc n ou0 k:=fun k hk h2 h3=>by
  obtain⟨j,rfl⟩:∃j,k=j+1:=⟨k - 1,by omega⟩
  rw[ho _ hk h2 h3];rfl
 have hkH:∀k cs,H k=some cs->1<=k/\k≠kt/\k≠kt':=fun k cs hk=>by
  refine⟨?_,(by rintro rfl;rw[e4]at hk;cases hk),(by rintro rfl;rw[w.inO _ _ hk]at hk0;cases hk0)⟩
  match k with
  |0=>rw[w.sep.1]at hk;cases hk
  |k+1=>omega
 have hkA:∀(a k n:Nat),nm[a]?=some (k,n)->1<=k/\k≠kt/\k≠kt':=fun a k n h=>by
  refine⟨w.sep.2 a k n h,e5 a k n h,?_⟩
  rintro rfl
  obtain⟨cs,c1,_⟩:=w.arr a k n h
  rw[c1]at hk0;cases hk0
 refine⟨fun k cs hk=>?_,fun k o hk=>?_,w.len,fun a k n h=>?_,w.aH,w.aa,w.sep,fun cs hc es2 i hi2=>?_,fun k o hk=>?_⟩
 ·obtain⟨h2,h3,h4⟩:=hkH k cs hk
  rw[e k h2 h3 h4];exact w.inO k cs hk
 ·by_cases h2:k=0
  ·subst h2;rw[h0]at hk;cases hk;exact hi
  by_cases h3:k=kt
  ·subst h3;rw[hd]at hk;cases hk;trivial
  by_cases h4:k=kt'
  ·subst h4;rw[h1]at hk;cases hk;trivial
  rw[e k (by omega) h3 h4]at hk;exact w.ok k o hk
 ·obtain⟨h2,h3,h4⟩:=hkA a k n h
  rw[e k h2 h3 h4];exact w.arr a k n h
 ·rw[h0]at hc;cases hc
  rw[hmc']at hi2;cases hi2
  refine⟨kt',rfl,hk1,h1,?_,fun a k n h=>(hkA a k n h).2.2⟩
  cases hh:H kt' with
  |none=>rfl
  |some c=>exact absurd rfl (hkH _ _ hh).2.2
 ·by_cases h2:k=0
  ·subst h2;rw[h0]at hk;cases hk;trivial
  by_cases h3:k=kt
  ·subst h3;rw[hd]at hk;cases hk;trivial
  by_cases h4:k=kt'
  ·subst h4;rw[h1]at hk;cases hk;trivial
  rw[e k (by omega) h3 h4]at hk;exact w.pl k o hk
theorem Qgp(hΓ:∀g cs,(g,cs)∈Γ->idsL isO cs)(h0:M0 fu fc ou H nm m tc ec vc kc)(hfc:fc.ids isO)(a:Int)(hol:m.out.length<=1000)(hne:m.out.length≠1000):
  AFn Tryz.prog Γ 136 [.one (.ptr (.o 0) 0),.one (int 7),.one (.sl 1 [[iW a]])] ou (PlQ fu fc H nm { m with out:=m.out++[a] } (.obj 0 []) tc ec vc kc):=by
 have hoX:=h0.ouX
 have hids:=h0.ids
 have hw:=h0.w
 rw[hoX]at hw ⊢
 generalize hmc:ou=ou0 at hw
 clear hoX
 obtain⟨kt2,e1,e2,e3,e4,e5⟩:=hw.tk _ rfl _ _ (show (mC tc ec vc kc m.out m.steps fu fc)[4]?=_ from rfl)
 obtain⟨ac,kt⟩:=fc
 simp only[Abs.Id.o.injEq]at e1
 subst e1
 obtain⟨kj,rfl⟩:∃kj,kt=kj+1:=⟨kt - 1,by omega⟩
 refine AFn.walk 152 tabOk Tryz.func136 rfl (by kernel_rfl) rfl rfl fun hou=>?_
 refine zA ?_
 refine ACode.cond rfl (fun hb=>absurd (by simpa using hb) (show ¬((m.out.length:Int)=1000) by omega)) (fun _=>?_)
 refine zA ?_
 refine ACode.drawC2 tabOk 13 [10,11,12] [(6,.one (.box [iW a])),(8,.one (int a))] (fun vs σ=>match vs with
   |[]=>σ=⟨0,[],ouX (mC tc ec vc kc m.out m.steps fu ⟨ac,kj+1⟩) m.out.length ou0⟩
   |[v]=>v=.one (.gs 1 (m.out.map cI++[[int a]]) (.l 0))/\σ=(St.set ⟨0,[],ouX (mC tc ec vc kc m.out m.steps fu ⟨ac,kj+1⟩) m.out.length ou0⟩ (.o (kj+1)) .dead).push (.tok 3 1 (m.out.map cI++[[int a]]).length)
   |[v,w]=>v=.one (.gs 1 (m.out.map cI++[[int a]]) (.l 0))/\w=.one (.ptr (.o 0) 0)/\σ=(St.set ⟨0,[],ouX (mC tc ec vc kc m.out m.steps fu ⟨ac,kj+1⟩) m.out.length ou0⟩ (.o (kj+1)) .dead).push (.tok 3 1 (m.out.map cI++[[int a]]).length)
   |[v,w,x]=>v=.one (.gs 1 (m.out.map cI++[[int a]]) (.l 0))/\w=.one (.ptr (.o 0) 0)/\x=.one (.ptr (.o 0) 4)/\σ=(St.set ⟨0,[],ouX (mC tc ec vc kc m.out m.steps fu ⟨ac,kj+1⟩) m.out.length ou0⟩ (.o (kj+1)) .dead).push (.tok 3 1 (m.out.map cI++[[int a]]).length)
   |_=>False) follows (by kernel_rfl) rfl rfl (by decide) (by kernel_rfl) (by kernel_rfl) rfl rfl ?_ ?_ (by decide) ?_ ?_
 ·intro vs σ h
  match vs with
  |[]=>subst h;rfl
  |[_]=>obtain⟨_,rfl⟩:=h;rfl
  |[_,_]=>obtain⟨_,_,rfl⟩:=h;rfl
  |[_,_,_]=>obtain⟨_,_,_,rfl⟩:=h;rfl
  |_::_::_::_::_=>exact h.elim
 ·intro vs σ h
  have ho2:OuOk σ.ou:=by
   have hd:OuOk (St.set ⟨0,[],ouX (mC tc ec vc kc m.out m.steps fu ⟨ac,kj+1⟩) m.out.length ou0⟩ (.o (kj+1)) .dead).ou:=fun k o hk=>by
    simp only[St.set]at hk
    by_cases e:k=kj+1
    ·subst e;simp at hk;subst hk;trivial
    ·rw[Q07 e]at hk;exact hou k o hk
   match vs with
   |[]=>subst h;exact hou
   |[_]=>obtain⟨_,rfl⟩:=h;exact hd
   |[_,_]=>obtain⟨_,_,rfl⟩:=h;exact hd
   |[_,_,_]=>obtain⟨_,_,_,rfl⟩:=h;exact hd
   |_::_::_::_::_=>exact h.elim
  exact⟨⟨_,rfl,zIA rfl rfl rfl (by decide) rfl⟩,⟨_,rfl,AStep.callPure hΓ rfl rfl rfl (by simp[idsF,iW]) ho2 (Q0h a)⟩,trivial⟩
 ·intro vs σ h i o hi ho
  match vs with
  |[]=>
   subst h;cases hi;cases ho
   exact⟨rfl,.inl (.inl ⟨_,_,AStep.append tabOk rfl rfl rfl rfl rfl rfl (Base.gs' _ _ _ _ _ (show ouX (mC tc ec vc kc m.out m.steps fu ⟨ac,kj+1⟩) m.out.length ou0 (kj+1)=_ from e3) (by simp)) (.sl 1 [[int a]]) rfl (by simp;show _ * 8<=_;omega) (by simp;omega),rfl,rfl⟩)⟩
  |[_]=>obtain⟨rfl,rfl⟩:=h;cases hi;cases ho;exact⟨rfl,.inl (.inl ⟨_,_,AStep.ofOp tabOk rfl,rfl,rfl,rfl⟩)⟩
  |[_,_]=>obtain⟨rfl,rfl,rfl⟩:=h;cases hi;cases ho;exact⟨rfl,.inl (.inl ⟨_,_,AStep.ofOp tabOk rfl,rfl,rfl,rfl,rfl⟩)⟩
  |_::_::_::_=>cases hi
 ·intro vs σ hl h
  match vs with
  |[_,_,_]=>
   obtain⟨rfl,rfl,rfl,rfl⟩:=h
   have hIds:∀l:List Int,idsS isO (l.map cI):=fun l=>by simp
   have hd:OuOk (St.set ⟨0,[],ouX (mC tc ec vc kc m.out m.steps fu ⟨ac,kj+1⟩) m.out.length ou0⟩ (.o (kj+1)) .dead).ou:=fun k o hk=>by
    simp only[St.set]at hk
    by_cases e:k=kj+1
    ·subst e;simp at hk;subst hk;trivial
    ·rw[Q07 e]at hk;exact hou k o hk
   refine AOps.cedes [0] rfl (by decide) hd fun q hq=>⟨[(134,.one (.ptr (.o 0) 4)),(132,.one (.gs 1 (m.out.map cI++[[int a]]) (.o q)))],[],[.tok 3 1 (m.out.map cI++[[int a]]).length],?_,.nil,?_,?_⟩
   ·exact .cons rfl rfl (.gs rfl (by rw[show m.out.map cI++[[int a]]=(m.out++[a]).map cI by simp[cI]];exact hIds _) rfl .nil)
   ·exact .cons rfl rfl .nil
   have hq0:kj+1 < q:=by
    rcases Nat.lt_or_ge (kj+1) q with h|h
    ·exact h
    ·have:=hq (kj+1) h
     simp[St.push,St.set]at this
   generalize hA:(ouAdd (((St.set ⟨0,[],ouX (mC tc ec vc kc m.out m.steps fu ⟨ac,kj+1⟩) m.out.length ou0⟩ (.o (kj+1)) .dead).push (.tok 3 1 (m.out.map cI++[[int a]]).length)).ou) q [.tok 3 1 (m.out.map cI++[[int a]]).length])=oA
   have hA0:oA 0=some (.cells (mC tc ec vc kc m.out m.steps fu ⟨ac,kj+1⟩)):=by rw[←hA,Q18 (by omega)];rfl
   have hAq:oA q=some (.tok 3 1 (m.out.map cI++[[int a]]).length):=by rw[←hA];exact Q1e 0
   have hAd:oA (kj+1)=some .dead:=by rw[←hA,Q18 hq0];simp[St.push,St.set]
   have hAk:∀k,1<=k->k≠kj+1->k≠q->oA k=ou0 k:=fun k h2 h3 h4=>by
    obtain⟨j,rfl⟩:∃j,k=j+1:=⟨k - 1,by omega⟩
    rcases Nat.lt_or_ge (j+1) q with h|h
    ·rw[←hA,Q18 h]
     simp[St.push,St.set,Q07 h3];rfl
    ·have e5:ou0 (j+1)=none:=by
      have:=hq (j+1) h
      simp[St.push,St.set,Q07 h3]at this
      exact this
     obtain⟨p,hp⟩:∃p,j+1=q+p:=⟨j+1 - q,by omega⟩
     rw[e5,←hA,hp,Q1e]
     match p,hp with
     |0,hp=>omega
     |p+1,_=>rfl
   have hqn:ouX (mC tc ec vc kc m.out m.steps fu ⟨ac,kj+1⟩) m.out.length ou0 q=none:=by
    have:=hq q (Nat.le_refl _)
    simp[St.push,St.set,Q07 (show q≠kj+1 by omega)]at this
    exact this
   refine AOps.storeOwn tabOk rfl rfl rfl rfl rfl rfl rfl hA0 (by simp[mC]) ?_
   have hN:M0 fu ⟨ac,q⟩ (St.set ⟨1,[],oA⟩ (.o 0) (.cells ((mC tc ec vc kc m.out m.steps fu ⟨ac,kj+1⟩).set 4 (.gs 1 (m.out.map cI++[[int a]]) (.o q))))).ou H nm { m with out:=m.out++[a] } tc ec vc kc:=by
    have hmm:(mC tc ec vc kc m.out m.steps fu ⟨ac,kj+1⟩).set 4 (.gs 1 (m.out.map cI++[[int a]]) (.o q))=mC tc ec vc kc (m.out++[a]) m.steps fu ⟨ac,q⟩:=by simp[mC,cI]
    rw[hmm]
    refine⟨hids,by simp[St.set],WR.reTok hw rfl (show idsL isO (mC tc ec vc kc (m.out++[a]) m.steps fu ⟨ac,q⟩)from ⟨hids.1,hids.2.1,hids.2.2.1,hids.2.2.2,⟨trivial,hIds _⟩,trivial,trivial,hfc,trivial⟩) (show (mC tc ec vc kc (m.out++[a]) m.steps fu ⟨ac,q⟩)[4]?=some (.gs 1 ((m.out++[a]).map cI) (.o q))from rfl) (by simp[St.set]) hqn ?_ ?_ ?_⟩
    ·simp[St.set,Q07 (show q≠0 by omega),hAq]
    ·simp[St.set,Q07 (show kj+1≠0 by omega),hAd]
    ·intro k h2 h3 h4
     simp[St.set,Q07 (show k≠0 by omega)];exact hAk k h2 h3 h4
   have hNo:=hN.w.ok
   repeat ((fail_if_success ((with_reducible refine oj ?_);refine AOps.atDst 137 rfl ?_));first|refine zO ?_)
   refine AOps.freeze1 (.l 1) 136 rfl rfl ?_
   refine AOps.wk 136 rfl (y:=.one (.box [int 0,.sl 1 []])) (.one (Wk.box (.cons (.refl _) (.cons (.nilS 1) .nil)))) ?_
   refine zS (AStep.mkIfc Q4g rfl rfl) ?_
   refine zA ?_
   exact AFn.fin' rfl (WkF.ofEq rfl) (by simp[iB]) hNo ⟨q,H,nm,iB tObj [int 0,.sl 1 []],rfl,.refl _ _,.obj 0 [] [] .nil,hN⟩
  |[]|[_]|[_,_]=>cases hl
  |_::_::_::_::_=>exact h.elim
end
section
variable {fu:Int}{fc:FcT}{fns:List Fun}{ou:Outer}{H:Hm}{nm:Nm2}{m m1:Ms}{v:Vl}{tc ec vc kc:AC}{t:Tr}{e:En}{d:List Vl}{k:List Fm}{dc:List (List AC)}{tc0 ec0 vc0 kc0:AC}
theorem Qiw(hΓ:∀g cs,(g,cs)∈Γ->idsL isO cs)(h0:M0 fu fc ou H nm m tc ec vc kc)(hd:VsR H nm d dc)(h6:t.op=6):
  AFn Tryz.prog Γ 113 [.one (.ptr (.o 0) 0),.one (.box (cTr t)),.one (.sl 1 dc)] ou (PlQ fu fc H nm m (.obj t.n d) tc ec vc kc):=by
 have hdi:=hd.ids
 refine AFn.walk 85 tabOk Tryz.func113 rfl (by kernel_rfl) rfl rfl fun hou=>?_
 cases t with
 |mk to tn tb tk ta=>
 obtain rfl:to=6:=h6
 repeat ((fail_if_success ((with_reducible refine oj ?_);refine AOps.atDst 23 rfl ?_));first|refine zO ?_)
 refine AOps.freeze1 (.l 0) 22 rfl rfl ?_
 refine zS (AStep.mkIfc Q4g rfl rfl) ?_
 refine zA ?_
 exact AFn.fin' rfl (WkF.ofEq rfl) ⟨⟨trivial,hdi,trivial⟩,trivial⟩ hou ⟨fc.kt,H,nm,iB tObj [int tn,.sl 1 dc],rfl,.refl _ _,.obj tn d dc hd,h0⟩
theorem Q5s(h0:M0 fu fc ou H nm m tc0 ec0 vc0 kc0)(hk:KR H nm k kc)(hfc:fc.ids isO):M0 fu fc (ouX (mC tc0 ec0 vc0 kc m.out m.steps fu fc) m.out.length ou) H nm m tc0 ec0 vc0 kc:=by
 have hw:=h0.w
 rw[h0.ouX]at hw
 exact⟨⟨h0.ids.1,h0.ids.2.1,h0.ids.2.2.1,hk.ids⟩,rfl,hw.put (mc':=mC tc0 ec0 vc0 kc m.out m.steps fu fc) (by simp[mC,h0.ids.1,h0.ids.2.1,h0.ids.2.2.1,hk.ids,hfc]) rfl rfl (fun _=>rfl)⟩
end
end Go.Proofs.YtkgjldchcbfpnaaGreatDoor
namespace Go.Abs
theorem AStep.less{E:Env}{o:Oper}{fr:Fr}{σ σ1 σ2:St}{x:FV}(h:AStep E o fr σ x σ1)(hn:σ2.n=σ1.n)(hs:∀i o,σ2.get i=some o->σ1.get i=some o):AStep E o fr σ x σ2:=
 fun F w C tmps hi hf next Q hk=>h F w C tmps hi hf next Q fun u w' C' hg hi' hr=>
  hk u w' C' hg ⟨hi'.base,by rw[hn];exact hi'.next,hi'.glob,hi'.prot,fun i o ho=>hi'.obj i o (hs i o ho),fun i j o o' g h1 h2 h3 h4=>hi'.inj i j o o' g (hs i o h1) (hs j o' h2) h3 h4⟩ hr
theorem AStep.weakV{E:Env}{o:Oper}{fr:Fr}{σ σ':St}{x y:FV}(h:AStep E o fr σ x σ')(hw:WkF x y):AStep E o fr σ y σ':=
 fun F w C tmps hi hf next Q hk=>h F w C tmps hi hf next Q fun u w' C' hg hi' hr=>hk u w' C' hg hi' (hw _ _ _ hr)
end Go.Abs
namespace Go.Proofs.YtkgjldchcbfpnaaGreatDoor
open Go Go.Abs Go.CoreX
variable {Γ:List (Nat×List AC)}
def Qkx (cs:List (List AC))(ou:Outer)(r:FV)(ou':Outer):Prop:=
 (cs=[]/\r=.one (.lit (.slice none 0 0))/\ou'=ou)∨∃q,r=.one (.gs 1 cs (.o q))/\ou' q=some (.tok 68 1 cs.length)/\ou q=none/\∀m,m≠q->ou' m=ou m
theorem Qkc(hΓ:∀g cs,(g,cs)∈Γ->idsL isO cs)(cs:List (List AC))(hl:cs.length<=1048576)(hi:idsS isO cs)(h1:∀x∈cs,x.length=1)(ou:Outer):AFn Tryz.prog Γ 87 [.one (.sl 1 cs)] ou (Qkx cs ou):=by
 refine AFn.walk 8 tabOk Tryz.func87 rfl (by kernel_rfl) rfl rfl fun hou=>?_
 refine zA ?_
 refine AOps.nilTest rfl rfl rfl rfl Tryz.underlying156 rfl rfl fun b hb=>?_
 cases b with
 |true=>
  have hz:cs=[]:=by have:=hb rfl;simpa using this
  subst hz
  refine zA ?_
  exact AFn.fin' rfl (.refl _) (by simp) hou (.inl ⟨rfl,rfl,rfl⟩)
 |false=>
  refine zA ?_
  refine zS (AStep.buildSlice0 tabOk rfl rfl rfl rfl rfl) ?_
  refine zA ?_
  refine AOps.app tabOk rfl rfl rfl rfl rfl rfl rfl rfl rfl (Base.gs' _ _ _ _ _ (by rfl) (by simp)) (.sl _ _) rfl (by simp;show _ * 16<=_;omega) (by simp;omega) ?_
  refine AOps.cedes [1] rfl (by decide) hou fun q hq=>⟨[(7,.one (.gs 1 ([]++cs) (.o q)))],[],[.tok 68 1 ([]++cs).length],.gs rfl (by simpa using hi) rfl .nil,.nil,.cons rfl rfl .nil,?_⟩
  have hN:=NewO.add hq hou (show (AObj.tok 68 1 ([]++cs).length).ids isO from trivial)
  refine zA ?_
  refine AFn.fin' rfl (WkF.ofEq rfl) ⟨trivial,by simpa using hi⟩ hN.ok (.inr ⟨q,by simp,?_,hN.new q (by simp[keys]),fun m hm=>hN.old m (by simp[keys];exact hm)⟩)
  have:=hN.own (q,_) (List.mem_singleton.2 rfl)
  simpa using this
section
variable {fu:Int}{ac:AC}{fns:List Fun}{G:GP}
theorem VsR.ones{H:Hm}{nm:Nm2}:∀{v:List Vl}{c:List (List AC)},VsR H nm v c->∀x∈c,x.length=1
 |_,_,.nil,x,hx=>by cases hx
 |_,_,.cons v c vs cs hv h,x,hx=>by
  rcases List.mem_cons.1 hx with rfl|hx
  ·rfl
  ·exact VsR.ones h x hx
end
theorem Ql4{a b:Int}(ha:inW a)(hb:inW b):inW (a.tmod b):=by
 have h1:(a.tmod b).natAbs<=a.natAbs:=by
  rw[Int.natAbs_tmod];exact Nat.mod_le _ _
 unfold inW at *
 have h2:-1073741824<=a.tmod b:=by
  rcases Int.le_total 0 a with h|h
  ·have:=Int.tmod_nonneg b h;omega
  ·omega
 have h3:a.tmod b<=1073741823:=by
  rcases Int.le_total 0 a with h|h
  ·omega
  ·have h4:a.tmod b=-((-a).tmod b):=by rw[Int.neg_tmod];omega
   have:=Int.tmod_nonneg b (show 0<=-a by omega)
   omega
 exact⟨h2,h3⟩
section
variable {fu:Int}{ac:AC}
theorem list1{α:Type}{l:List α}(h:l.length=1):∃a,l=[a]:=by
 match l,h with
 |[a],_=>exact⟨a,rfl⟩
theorem list2{α:Type}{l:List α}(h:l.length=2):∃a b,l=[a,b]:=by
 match l,h with
 |[a,b],_=>exact⟨a,b,rfl⟩
end
theorem idle_ok(a b c d:Value)(w:World):CallsD Tryz.prog 49 #[a,b,c,d] .returning w fun e u' w'=>(∃v,e=.returned v)/\u'=.returning/\w'=w:=by
 refine callsD_of_wpS Tryz.func49 rfl fun c₀ cs hu=>?_
 apply wpS_seq
 apply wpS_region
 simp[wpOpsS,go_sem,recoverD,hu,Tryz.ntmps49,Exit.thenS]
 apply wpS_seq
 apply wpS_region
 simp[wpOpsS,go_sem,recoverD,hu,Exit.thenS]
 refine wpS_cond (t:=false) (by simp[Act.eval,Array.replicate]) ?_
 simp only[Bool.false_eq_true,if_false]
 refine wpS_of_wp (wp_skip ?_)
 cases c₀
 simp_all[bodyPostS,results,Tryz.results49]
section
variable {fu:Int}{ac:AC}{G:GP}
end
abbrev nilS:AC:=.lit (.slice none 0 0)
theorem A_ok(op:Int)(al:List Alt)(ks:List Tr):APure Tryz.prog Γ 58 [.one (int op),.one (.sl 2 (al.map cAlt)),.one (.sl 1 (Q36 ks))] (.one (.box (cNd (.mk op 0 [] ks al)))):=by
 intro ou
 refine AFn.walk 13 tabOk Tryz.func58 rfl (by kernel_rfl) rfl rfl fun hou=>?_
 iterate 14 (first|((with_reducible refine oj ?_);refine zau ?_)|(with_reducible refine zst ?_)|((with_reducible refine Q0t ?_ ?_);rfl)|(with_reducible refine ok ?_;first|refine ACode.condT rfl ?_|refine ACode.condF rfl ?_))
 refine AOps.freeze1 (.l 0) 6 rfl rfl ?_
 refine zA ?_
 refine APure.fin rfl (.one (Wk.box ?_)) (by simp) hou rfl
 exact .cons (.refl _) (.cons (.refl _) (.cons (.nilS 1) (.cons (.any _) (.cons (.refl _) (.cons (.refl _) .nil)))))
theorem Qkw(hΓ:∀g cs,(g,cs)∈Γ->idsL isO cs)(l:List Int)(hl:l.length<=1048576):APure Tryz.prog Γ 29 [.one (.sl 1 (l.map cI)),.one (.sl 1 (l.map cI))] (.one (.lit (.bool true))):=by
 intro ou
 refine AFn.walk 26 tabOk Tryz.func29 rfl (by kernel_rfl) rfl rfl fun hou=>?_
 refine zA ?_
 refine ACode.cond rfl (fun hb=>absurd hb (by simp)) (fun _=>?_)
 refine zA ?_
 refine ACode.loopR hΓ (α:=Nat) (fun i=>[(13,.one (int i)),(12,.one (int (l.map cI).length)),(1,.one (.sl 1 (l.map cI))),(0,.one (.sl 1 (l.map cI)))]) (fun i=>⟨0,[],ou⟩) (fun m i=>i<=l.length/\m=l.length - i) (a0:=0) (ρ:=_root_.id) ⟨by omega,rfl⟩ (LessR.of rfl zFW (by simp) zLO rfl rfl hou) fun m i hi=>?_
 obtain⟨hil,rfl⟩:=hi
 refine zA ?_
 refine ACode.cond rfl (fun hb=>?_) (fun hb=>?_)
 ·have hlt:i < l.length:=by simpa using hb
  clear hb
  obtain⟨x,hx⟩:=Q01 hlt
  refine zA ?_
  refine ACode.drawX tabOk 8 [(2,.one (.box [int x])),(6,.one (.box [int x]))] follows (by kernel_rfl) rfl rfl rfl rfl ?_ ?_
  ·exact⟨⟨_,rfl,zIA rfl rfl rfl (by omega) (Q06 hx)⟩,⟨_,rfl,zIA rfl rfl rfl (by omega) (Q06 hx)⟩,trivial⟩
  refine zA ?_
  refine ACode.cond rfl (fun hb=>absurd hb (by simp)) (fun _=>?_)
  refine zM ?_
  exact cInv ⟨l.length - (i+1),i+1,_root_.id,by omega,⟨by omega,rfl⟩,LessR.of rfl zFW (by simp) zLO rfl rfl hou⟩
 ·refine zA ?_
  exact APure.fin rfl (WkF.ofEq rfl) (by simp) hou rfl
theorem Qf9(n:Int):okT (loopT n):=by simp[loopT,loopF,loopB,tV,tW,okT,okTs]
theorem Qg8(n:Int):cntN (loopT n)=18:=by simp[loopT,loopF,loopB,tV,tW,cntN,cntNs]
theorem Qn4(hΓ:∀g cs,(g,cs)∈Γ->idsL isO cs)(n:Int):APure Tryz.prog Γ 28 [.one (int n)] (.one (.sl 5 ((listT [] (loopT n)).map cEx))):=by
 have hL:=Qej hΓ (loopT n) (Qf9 n) (by have:=Q2c (loopT n) [];rw[Qg8]at this;simp at this;omega)
 intro ou
 refine AFn.walk 44 tabOk Tryz.func28 rfl (by kernel_rfl) rfl rfl fun hou=>?_
 refine zA ?_
 refine zca hΓ (V_ok hΓ 2) hou ?_
 refine zca hΓ (W_ok hΓ 1) hou ?_
 refine zA ?_
 refine zca hΓ (N_ok (Γ:=Γ) 8 5 [tV 2,tW 1]) hou ?_
 refine zA ?_
 refine zca hΓ (V_ok hΓ 1) hou ?_
 refine zca hΓ (V_ok hΓ 2) hou ?_
 refine zca hΓ (W_ok hΓ 1) hou ?_
 refine zA ?_
 refine zca hΓ (N_ok (Γ:=Γ) 8 1 [tV 2,tW 1]) hou ?_
 refine zA ?_
 refine zca hΓ (N_ok (Γ:=Γ) 3 0 [tV 1,.mk 8 1 [] [tV 2,tW 1] []]) hou ?_
 refine zA ?_
 refine AOps.wk 20 rfl (y:=.one (.sl 2 [[int 1,.sl 1 []],[int (-1),.sl 1 []]])) (.one (Wk.sl (.cons (.cons (.refl _) (.cons (.nilS 1) .nil)) (.cons (.cons (.refl _) (.cons (.nilS 1) .nil)) .nil)))) ?_
 refine zca hΓ (W_ok hΓ 0) hou ?_
 refine zca hΓ (V_ok hΓ 2) hou ?_
 refine zA ?_
 refine zca hΓ (N_ok (Γ:=Γ) 8 0 [tV 2,.mk 3 0 [] [tV 1,.mk 8 1 [] [tV 2,tW 1] []] []]) hou ?_
 refine zA ?_
 refine zca hΓ (A_ok (Γ:=Γ) 7 [⟨1,[]⟩,⟨-1,[]⟩] [.mk 8 5 [] [tV 2,tW 1] [],tW 0,.mk 8 0 [] [tV 2,.mk 3 0 [] [tV 1,.mk 8 1 [] [tV 2,tW 1] []] []] []]) hou ?_
 refine zA ?_
 refine zca hΓ (B_ok (Γ:=Γ) 2 [2] [loopB]) hou ?_
 refine zA ?_
 refine zca hΓ (V_ok hΓ 1) hou ?_
 refine zA ?_
 refine zca hΓ (W_ok hΓ n) hou ?_
 refine zA ?_
 refine zca hΓ (N_ok (Γ:=Γ) 3 0 [tV 1,tW n]) hou ?_
 refine zca hΓ (Qn1 hΓ (.mk 3 0 [] [tV 1,tW n] [])) hou ?_
 refine zA ?_
 refine zca hΓ (B_ok (Γ:=Γ) 5 [1] [loopF,.mk 8 7 [] [.mk 3 0 [] [tV 1,tW n] []] []]) hou ?_
 refine zca hΓ hL hou ?_
 refine zA ?_
 exact APure.fin rfl (WkF.ofEq rfl) (by simp) hou rfl
theorem slot_ok{g:Int}{l:List (List AC)}{n:Nat}{y:AC}(hl:l[n]?=some [y])(hy:y.ids isO):APure Tryz.prog Γ 112 [.one (iB tCap [int g,.sl 1 l]),.one (int n)] (.one y):=by
 have hlt:n < l.length:=(List.getElem?_eq_some_iff.1 hl).1
 intro ou
 refine AFn.walk 32 tabOk Tryz.func112 rfl (by kernel_rfl) rfl rfl fun hou=>?_
 refine zA ?_
 refine zS (AStep.assertYes Q4h rfl rfl) ?_
 refine zM ?_
 refine ACode.cond rfl (fun hb=>absurd hb (by simp;omega)) (fun _=>?_)
 refine zA ?_
 refine zS (zIA rfl rfl rfl (by omega) hl) ?_
 refine zA ?_
 exact APure.fin rfl (WkF.ofEq rfl) hy hou rfl
section
variable {fu:Int}{fc:FcT}{fns:List Fun}{ou:Outer}{H:Hm}{nm:Nm2}{m m1:Ms}{v:Vl}{tc ec vc kc:AC}{t:Tr}{e:En}{d:List Vl}{k:List Fm}{dc:List (List AC)}{tc0 ec0 vc0 kc0:AC}
theorem Qm3(hΓ:∀g cs,(g,cs)∈Γ->idsL isO cs)(h0:M0 fu fc ou H nm m tc0 ec0 vc0 kc0)(hfc:fc.ids isO)(he:ER H nm e ec){g:Int}{sl:List Vl}{c:AC}(hd:VR H nm (.cap g sl) c)(hk:KR H nm k kc)(hkl:t.kids.length=1)(h16:t.op=16){n:Nat}(hn:t.n=(n:Int))(hv:sl[n]?=some v):
  AFn Tryz.prog Γ 86 [.one (.ptr (.o 0) 0),.one (.box [.box (cTr t),ec,.sl 1 [[c]],kc])] ou (StQ fu fc H nm (.ok { m with c:=.rt v,k:=k })):=by
 have hN:=Q5s h0 hk hfc
 have hei:=he.ids
 have hdi:=hd.ids
 have hki:=hk.ids
 have hw:=hN.w
 have hoX:=h0.ouX
 rw[hoX]
 generalize hmc:ou=ou0 at hN hw
 clear hoX
 obtain⟨g',sl',l,e1,rfl,hsl⟩:∃g' sl' l,Vl.cap g sl=.cap g' sl'/\c=iB tCap [int g',.sl 1 l]/\VsR H nm sl' l:=by
  rcases hd.isCap with ⟨n,fs,cs,h1,h2,h3⟩|⟨h1,_⟩
  ·exact⟨n,fs,cs,h1,h2,h3⟩
  ·exact absurd rfl (h1 g sl)
 cases e1
 obtain⟨y,hy,hvy⟩:=hsl.get hv
 have hyi:=hvy.ids
 have hll:=hsl.len
 obtain⟨o,tn,b,ks,al⟩:=t
 simp only[Tr.op,Tr.n,Tr.kids]at h16 hn hkl
 subst h16;subst hn
 have hop:opdN (.mk 16 (n:Int) b ks al)=1:=by show ks.length=1;exact hkl
 have hs:=slot_ok (Γ:=Γ) (g:=g) hy hyi
 refine AFn.walk 262 tabOk Tryz.func86 rfl (by kernel_rfl) rfl rfl fun hou=>?_
 refine zA ?_
 refine ACode.drawX tabOk 10 [(9,.one (int (opdN (.mk 16 (n:Int) b ks al))))] follows (by kernel_rfl) rfl rfl rfl rfl ?_ ?_
 ·exact⟨⟨_,rfl,AStep.callPure hΓ rfl rfl rfl (by simp[idsF]) hou (Q46 _)⟩,trivial⟩
 refine zA ?_
 refine ACode.cond rfl (fun hb=>absurd hb (by simp[hop])) (fun hb=>?_)
 refine zA ?_
 refine ACode.stEq (σ':=⟨0,[],ouX (mC tc0 ec0 vc0 kc m.out m.steps fu fc) m.out.length ou0⟩) (setX _ _ _ _) ?_
 refine zA ?_
 refine ACode.drawCS tabOk 19 15 16 17 18 (.one (.ptr (.o 0) 0)) (.one (.ptr (.o 0) 0)) [(6,.one (.box [iB tCap [int g,.sl 1 l]]))]
  (fun r σ=>r=.one y/\σ=⟨0,[],ouX (mC tc0 ec0 vc0 kc m.out m.steps fu fc) m.out.length ou0⟩)
  (fun r σ=>r=.one y/\σ=⟨0,[],ouX (mC nilPE ec0 vc0 kc m.out m.steps fu fc) m.out.length ou0⟩)
  follows (by kernel_rfl) rfl rfl (by decide) (by kernel_rfl) (by kernel_rfl) rfl rfl rfl rfl rfl rfl rfl ?_ ?_ ?_ ?_ ?_ ?_ ?_ ?_ ?_ ?_
 ·rintro r σ ⟨rfl,rfl⟩;rfl
 ·rintro r σ ⟨rfl,rfl⟩;rfl
 ·exact⟨⟨_,rfl,zIA rfl rfl rfl (by decide) rfl⟩,trivial⟩
 ·rintro r σ ⟨rfl,rfl⟩
  exact⟨⟨_,rfl,zIA rfl rfl rfl (by decide) rfl⟩,trivial⟩
 ·rintro r σ ⟨rfl,rfl⟩
  exact⟨⟨_,rfl,zIA rfl rfl rfl (by decide) rfl⟩,trivial⟩
 ·refine Q1c.ofR (Q0n.call hΓ rfl rfl rfl rfl ⟨hdi,trivial,trivial⟩ hw.ok (hs _) fun r ou' hq hr ho=>?_)
  obtain⟨rfl,rfl⟩:=hq
  exact⟨rfl,rfl⟩
 ·rintro r σ ⟨rfl,rfl⟩;exact AStep.ofOp tabOk rfl
 ·rintro r σ ⟨rfl,rfl⟩;exact AStep.ofOp tabOk rfl
 ·rintro r σ ⟨rfl,rfl⟩;exact⟨_,⟨rfl,setX _ _ _ _⟩,AStep.ofStore tabOk rfl⟩
 ·rintro r σ ⟨rfl,rfl⟩
  refine zA ?_
  exact StQ.fin rfl rfl (.refl _ _) (MR.ofRt hw hvy hk h0.ids.2.1 hfc rfl rfl (fun _=>rfl))
theorem Qm5(hΓ:∀g cs,(g,cs)∈Γ->idsL isO cs)(h0:M0 fu fc ou H nm m tc0 ec0 vc0 kc0)(hfc:fc.ids isO)(he:ER H nm e ec)(hd:VsR H nm d dc)(hk:KR H nm k kc)(hl:d.length=t.kids.length)(h15:t.op=15):
  AFn Tryz.prog Γ 86 [.one (.ptr (.o 0) 0),.one (.box [.box (cTr t),ec,.sl 1 dc,kc])] ou (StQ fu fc H nm (.ok { m with c:=.rt (.cap t.n d),k:=k })):=by
 have hN:=Q5s h0 hk hfc
 have hei:=he.ids
 have hdi:=hd.ids
 have hki:=hk.ids
 have hdl:=hd.len
 have hw:=hN.w
 have hoX:=h0.ouX
 rw[hoX]
 generalize hmc:ou=ou0 at hN hw
 clear hoX
 obtain⟨o,n,b,ks,al⟩:=t
 simp only[Tr.op,Tr.kids]at h15 hl
 subst h15
 have hop:opdN (.mk 15 n b ks al)=ks.length:=rfl
 refine AFn.walk 262 tabOk Tryz.func86 rfl (by kernel_rfl) rfl rfl fun hou=>?_
 refine zA ?_
 refine ACode.drawX tabOk 10 [(9,.one (int (opdN (.mk 15 n b ks al))))] follows (by kernel_rfl) rfl rfl rfl rfl ?_ ?_
 ·exact⟨⟨_,rfl,AStep.callPure hΓ rfl rfl rfl (by simp[idsF]) hou (Q46 _)⟩,trivial⟩
 refine zA ?_
 refine ACode.cond rfl (fun hb=>absurd hb (by simp[hop,hdl,hl])) (fun hb=>?_)
 refine zA ?_
 refine ACode.stEq (σ':=⟨0,[],ouX (mC tc0 ec0 vc0 kc m.out m.steps fu fc) m.out.length ou0⟩) (setX _ _ _ _) ?_
 refine zA ?_
 refine ACode.drawSt tabOk 19 18 [(14,.one (.box [int n,.sl 1 dc])),(15,.one (iB tCap [int n,.sl 1 dc]))] _ follows (by kernel_rfl) rfl rfl (by kernel_rfl) rfl ?_ rfl rfl rfl rfl ?_ ?_ (AStep.ofStore tabOk rfl) ?_
 ·rfl
 ·exact⟨⟨_,rfl,AStep.boxI rfl rfl⟩,⟨_,rfl,AStep.mkIfc Q4h rfl rfl⟩,trivial⟩
 ·exact⟨⟨_,rfl,AStep.boxI rfl rfl⟩,⟨_,rfl,AStep.mkIfc Q4h rfl rfl⟩,trivial⟩
 refine zA ?_
 exact StQ.fin rfl rfl (.refl _ _) (MR.ofRt hw (.cap n d dc hd) hk h0.ids.2.1 hfc rfl rfl (fun _=>rfl))
end
abbrev VA:={c:AC // c.ids isO}
def cV (v:VA):List AC:=[v.1]
theorem Qjq{p:Abs.Id->Prop}(hp:∀i,isO i->p i)(l:List VA):idsS p (l.map cV):=Q2f (f:=cV) (fun v=>⟨AC.ids_mono hp v.1 v.2,trivial⟩) l
theorem Qjh(k:Nat):∀i,isO i->inL k i:=fun i hi=>by cases i with|l k=>exact hi.elim|o k=>trivial
@[simp] theorem ids_cV_l (k:Nat) (l:List VA):idsS (inL k) (l.map cV):=Qjq (Qjh k) _
@[simp] theorem Qma (l:List VA):idsS isO (l.map cV):=Qjq (fun _ h=>h) _
def GrwQV (ou:Outer)(r:FV)(ou':Outer):Prop:=
 (r=.one (.lit (.slice none 0 0))/\ou'=ou)∨∃k cap,ou k=none/\r=.one (.arr (.o k) 1 0 0 cap)/\ou'=updO ou k (.cells (vec 1 [] cap))
theorem Qku(n:Nat)(hn:n<=1048576)(ou:Outer):AFn Tryz.prog Γ 163 [.one (.lit (.slice none 0 0)),.one (int n)] ou (GrwQV ou):=by
 refine AFn.walk 27 tabOk Tryz.func163 rfl (by kernel_rfl) rfl rfl fun hou=>?_
 refine zA ?_
 refine zS (AStep.capNil tabOk rfl rfl rfl rfl) ?_
 refine zM ?_
 refine ACode.cond rfl (fun hb=>?_) (fun hb=>?_)
 ·have hn0:0 < n:=by simp at hb;omega
  refine zA ?_
  refine zS (AStep.capNil tabOk rfl rfl rfl rfl) ?_
  refine zA ?_
  refine zS (AStep.sliceNilTo tabOk rfl rfl rfl rfl rfl rfl) ?_
  refine zA ?_
  refine AOps.wk 21 rfl (y:=.one (int n)) (.ofEq (by simp)) ?_
  refine AOps.stepR rfl rfl rfl (Q0n.appZeros0 (m:=n) (s:=1) tabOk rfl rfl rfl rfl rfl Tryz.underlying3 rfl rfl hn0 (by show _ * 16<=_;omega) (by omega)) ?_
  rintro v σ' ⟨cap,hcap,rfl,rfl⟩
  refine zA ?_
  refine zS (AStep.sliceOwn (a:=0) (b:=0) (c:=cap) tabOk rfl rfl rfl rfl rfl rfl rfl ⟨.i64,rfl⟩ rfl (fun h=>by cases h) (by omega) (by omega) (by omega)) ?_
  rw[show (AC.arr (.l 0) 1 (if cap=0 then 0 else 0) (0 - 0) (cap - 0))=.arr (.l 0) 1 0 0 cap by simp]
  refine AOps.cede 0 (show 0 < 1 by omega) fun k hk=>⟨[(25,.one (.arr (.o k) 1 0 0 cap))],⟨1,[],updO ou k (.cells (vec 1 [] cap))⟩,⟨CedFr.get (.cons rfl rfl .nil),rfl,fun i x hx=>?_⟩,?_⟩
  ·have hk:ou k=none:=hk
   cases i with
   |l m=>cases hx
   |o m=>
    have hx':updO ou k (.cells (vec 1 [] cap)) m=some x:=hx
    by_cases e:k=m
    ·subst e;rw[Q04]at hx';cases hx'
     exact⟨.l 0,_,rfl,rfl,(AObj.sub_o _ (Q08 _ (by simp))).symm⟩
    ·rw[Q05 _ e]at hx'
     exact⟨.o m,x,hx',rfl,(AObj.sub_o x (hou m x hx')).symm⟩
  refine zA ?_
  exact AFn.fin' rfl (.refl _) (by simp) (Q0q hou (Q08 _ (by simp))) (.inr ⟨k,cap,hk,rfl,rfl⟩)
 ·refine zA ?_
  exact AFn.fin' rfl (.refl _) (by simp) hou (.inl ⟨rfl,rfl⟩)
def cLV (l:List VA):List AC:=[.sl 1 (l.map cV)]
theorem Qjr{p:Abs.Id->Prop}(hp:∀i,isO i->p i)(ll:List (List VA)):idsS p (ll.map cLV):=Q2f (f:=cLV) (fun l=>⟨Qjq hp l,trivial⟩) ll
@[simp] theorem ids_cL_lV (k:Nat) (ll:List (List VA)):idsS (inL k) (ll.map cLV):=Qjr (Qjh k) ll
@[simp] theorem ids_cL_oV (ll:List (List VA)):idsS isO (ll.map cLV):=Qjr (fun _ h=>h) ll
def catV (ll:List (List VA))(i:Nat):List VA:=(ll.take i).flatten
theorem Qcy{ll:List (List VA)}{i:Nat}{l:List VA}(h:ll[i]?=some l):catV ll (i+1)=catV ll i++l:=by unfold catV;rw[Q2k h];simp
theorem Qcz(ll:List (List VA)):catV ll ll.length=ll.flatten:=by unfold catV;rw[List.take_length]
theorem cat_leV(ll:List (List VA))(j:Nat):(catV ll j).length<=ll.flatten.length:=by
 have:=congrArg (fun z=>z.flatten.length) (List.take_append_drop j ll)
 simp only[List.flatten_append,List.length_append]at this
 unfold catV;omega
theorem Qho(hΓ:∀g cs,(g,cs)∈Γ->idsL isO cs)(ll:List (List VA))(hl:ll.length<=1048576)(hs:ll.flatten.length<=1048576):
  APure Tryz.prog Γ 134 [.one (.sl 1 (ll.map cLV))] (.one (.sl 1 (ll.flatten.map cV))):=by
 intro ou
 have hpre:=cat_leV ll
 refine AFn.walk 36 tabOk Tryz.func134 rfl (by kernel_rfl) rfl rfl fun hou=>?_
 refine zA ?_
 refine ACode.loopR hΓ (α:=Nat) (fun j=>[(11,.one (int j)),(10,.one (int (ll.map cLV).length)),(9,.one (.sl 1 (ll.map cLV))),(3,.one (int (catV ll j).length)),(0,.one (.sl 1 (ll.map cLV)))])
  (fun j=>⟨0,[],ou⟩) (fun m j=>j<=ll.length/\m=ll.length - j) (a0:=0) (ρ:=id) ⟨by omega,rfl⟩ (LessR.of rfl zFS (by simp) zLO rfl rfl hou) fun m j hj=>?_
 obtain⟨hjl,rfl⟩:=hj
 refine zA ?_
 refine ACode.cond rfl (fun hb=>?_) (fun hb=>?_)
 ·have hlt:j < ll.length:=by simpa using hb
  clear hb
  obtain⟨l,hx⟩:=Q01 hlt
  have hsn:(catV ll (j+1))=(catV ll j)++l:=Qcy hx
  have hle:=hpre (j+1)
  rw[hsn,List.length_append]at hle
  refine zA ?_
  refine zS (zIA rfl rfl rfl (by omega) (Q06 hx)) ?_
  refine zM ?_
  exact cInv ⟨ll.length - (j+1),j+1,id,by omega,⟨by omega,rfl⟩,LessR.of rfl (FrSub.cons rfl (.ofEq rfl) (FrSub.cons rfl (.ofEq rfl) (FrSub.consP rfl (.ofEq rfl) (by simp) (FrSub.cons rfl (.ofEq (by simp[hsn,FV.ren,AC.ren])) (FrSub.consP rfl (.ofEq rfl) (by simp) .nil))))) (by simp) zLO rfl rfl hou⟩
 ·have hlt:j=ll.length:=by simp at hb;omega
  subst hlt
  rw[Qcz]
  refine zA ?_
  refine AOps.cutN 0 rfl hΓ (α:=Option Nat) (fun oc=>[(6,.one (oaC 0 1 [] oc)),(0,.one (.sl 1 (ll.map cLV)))]) (fun oc=>⟨1,[(0,oaO 1 [] oc)],ou⟩) (fun oc=>coO ([]:List (List AC)) oc) ?_ fun oc hoc=>?_
  ·dsimp only [List.take_zero,List.nil_append]
   refine AOps.call1 hΓ rfl rfl rfl rfl rfl rfl rfl (by exact⟨trivial,trivial,trivial⟩) hou (Qku ll.flatten.length hs ou) fun r ou' hq _ hov=>?_
   rcases hq with ⟨rfl,rfl⟩|⟨k,cap,hk,rfl,rfl⟩
   ·refine AOps.ghost ?_
    refine zA ?_
    exact cInv ⟨none,id,rfl,LessR.of rfl zFS (by simp) zLO rfl rfl hou⟩
   ·refine AOps.adopt hk (Q08 _ (by simp)) ?_
    refine AOps.wk 24 rfl (y:=.one (oaC 0 1 [] (some cap))) (.ofEq (by simp[FV.sub,AC.sub,toL,oaC])) ?_
    refine zA ?_
    exact cInv ⟨some cap,id,by simp[coO],LessR.of rfl zFS (by simp) (LoSub.cons rfl (show AObj.cells (vec 1 [] cap)=AObj.ren id (oaO 1 [] (some cap))from (Qif id 1 [] (some cap) fun _=>Qdu (by simp)).symm) rfl (Qdv (by simp)) .nil) rfl rfl hou⟩
  refine zA ?_
  refine ACode.loopR hΓ (α:=Nat×Option Nat) (fun c=>[(27,.one (int c.1)),(26,.one (int (ll.map cLV).length)),(25,.one (.sl 1 (ll.map cLV))),(6,.one (oaC 0 1 ((catV ll c.1).map cV) c.2))])
   (fun c=>⟨1,[(0,oaO 1 ((catV ll c.1).map cV) c.2)],ou⟩) (fun m c=>c.1<=ll.length/\coO ((catV ll c.1).map cV) c.2/\m=ll.length - c.1) (a0:=(0,oc)) (ρ:=id) ⟨by omega,hoc,rfl⟩ (LessR.of rfl ?_ (by simp) zLO rfl rfl hou) fun m c hc=>?_
  ·(repeat' first|exact FrSub.nil|refine zfc ?_|refine zfo ?_|refine zfp ?_)
  obtain⟨i,oc⟩:=c
  obtain⟨hil,hco,rfl⟩:=hc
  dsimp only at hil hco
  refine zA ?_
  refine ACode.cond rfl (fun hb2=>?_) (fun hb2=>?_)
  ·have hlt:i < ll.length:=by simpa using hb2
   clear hb2
   obtain⟨l,hx⟩:=Q01 hlt
   have hsn:(catV ll (i+1))=(catV ll i)++l:=Qcy hx
   have hle:=hpre (i+1)
   rw[hsn,List.length_append]at hle
   refine zA ?_
   refine zS (zIA rfl rfl rfl (by omega) (Q06 hx)) ?_
   refine zA ?_
   by_cases hxe:l=[]
   ·subst hxe
    rw[List.append_nil]at hsn
    refine AOps.appG0 (k:=0) (s:=1) (es:=(catV ll i).map cV) (oc:=oc) tabOk rfl rfl rfl rfl rfl rfl rfl rfl rfl ?_
    refine zM ?_
    exact cInv ⟨ll.length - (i+1),(i+1,oc),id,by omega,⟨by omega,by dsimp only;rw[hsn];exact hco,rfl⟩,LessR.of rfl (by dsimp only;rw[hsn];(repeat' first|exact FrSub.nil|refine zfc ?_|refine zfo ?_|refine zfp ?_)) (by simp) (by dsimp only;rw[hsn];repeat' first|exact LoSub.nil|refine zlc ?_|refine zld ?_ ?_|rfl) rfl rfl hou⟩
   ·refine AOps.appG (k:=0) (s:=1) (es:=(catV ll i).map cV) (oc:=oc) (news:=l.map cV) tabOk rfl rfl rfl rfl rfl rfl rfl rfl rfl rfl hco (fun y hy=>by obtain⟨z,_,rfl⟩:=List.mem_map.1 hy;rfl) (.sl 1 _) (by simpa using hxe) rfl (by simp only[List.length_map];show (_+_) * 16<=_;omega) (by simp only[List.length_map];omega) fun cap hc=>?_
    rw[←List.map_append,←hsn]at hc ⊢
    refine zM ?_
    exact cInv ⟨ll.length - (i+1),(i+1,some cap),fun _=>1,by omega,⟨by omega,hc,rfl⟩,LessR.of rfl zFS (by simp) zLO rfl rfl hou⟩
  ·have hlt:i=ll.length:=by simp at hb2;omega
   subst hlt
   have hfu:=Qcz ll
   repeat ((fail_if_success ((with_reducible refine oj ?_);refine AOps.atDst 35 rfl ?_));first|refine zO ?_)
   refine AOps.freezeG 0 6 rfl hco (fun y hy=>by obtain⟨z,_,rfl⟩:=List.mem_map.1 hy;rfl) rfl ?_
   refine zA ?_
   exact APure.fin rfl (WkF.ofEq (by rw[hfu])) (by rw[←hfu];simp) hou rfl
def cFun (f:Fun):List AC:=[.sl 1 (f.params.map cI),.box (cTr f.body)]
theorem Q7t(p:Abs.Id->Prop)(l:List Fun):idsS p (l.map cFun):=Q2f (f:=cFun) (fun f=>by simp[cFun]) l
@[simp] theorem ids_cFun_l (k:Nat) (l:List Fun):idsS (inL k) (l.map cFun):=Q7t _ l
@[simp] theorem Qh3 (l:List Fun):idsS isO (l.map cFun):=Q7t _ l
section
variable {fu:Int}{kt:Nat}{fns:List Fun}{ou:Outer}{H:Hm}{nm:Nm2}{m:Ms}{v:Vl}{tc ec vc kc:AC}{t:Tr}{e:En}{d:List Vl}{k:List Fm}{dc:List (List AC)}{tc0 ec0 vc0 kc0:AC}
theorem kid_fn(hΓ:∀g cs,(g,cs)∈Γ->idsL isO cs)(h0:M0 fu ⟨.sl 2 (fns.map cFun),kt⟩ ou H nm m tc0 ec0 vc0 kc0)(he:ER H nm e ec)(hd:VsR H nm d dc)(hk:KR H nm k kc)(hl:d.length=t.kids.length)(h14:t.op=14){i:Nat}(hn:t.n=(i:Int)){f:Fun}(hf:fns[i]?=some f)(hpl:f.params.length=d.length)(h20:f.params.length<=1048576):
  AFn Tryz.prog Γ 86 [.one (.ptr (.o 0) 0),.one (.box [.box (cTr t),ec,.sl 1 dc,kc])] ou (StQ fu ⟨.sl 2 (fns.map cFun),kt⟩ H nm (.ok { m with c:=.ev f.body (allE .nil f.params d),k:=k })):=by
 have hfc:(FcT.mk (.sl 2 (fns.map cFun)) kt).ids isO:=by show idsS isO _;simp
 have hN:=Q5s h0 hk hfc
 have hei:=he.ids
 have hdi:=hd.ids
 have hki:=hk.ids
 have hdl:=hd.len
 have hw:=hN.w
 have hoX:=h0.ouX
 rw[hoX]
 generalize hmc:ou=ou0 at hN hw
 clear hoX
 obtain⟨o,n,b,ks,al⟩:=t
 simp only[Tr.op,Tr.n,Tr.kids]at h14 hn hl
 subst h14;subst hn
 have hop:opdN (.mk 14 (i:Int) b ks al)=ks.length:=rfl
 have hsc:(fns.map cFun)[i]?=some (cFun f):=by rw[List.getElem?_map,hf];rfl
 refine AFn.walk 262 tabOk Tryz.func86 rfl (by kernel_rfl) rfl rfl fun hou=>?_
 refine zA ?_
 refine ACode.drawX tabOk 10 [(9,.one (int (opdN (.mk 14 (i:Int) b ks al))))] follows (by kernel_rfl) rfl rfl rfl rfl ?_ ?_
 ·exact⟨⟨_,rfl,AStep.callPure hΓ rfl rfl rfl (by simp[idsF]) hou (Q46 _)⟩,trivial⟩
 refine zA ?_
 refine ACode.cond rfl (fun hb=>absurd hb (by simp[hop,hdl,hl])) (fun hb=>?_)
 refine zA ?_
 refine ACode.stEq (σ':=⟨0,[],ouX (mC tc0 ec0 vc0 kc m.out m.steps fu ⟨.sl 2 (fns.map cFun),kt⟩) m.out.length ou0⟩) (setX _ _ _ _) ?_
 refine zA ?_
 refine ACode.drawXA tabOk 14 13 [(11,.one (.box (cFun f)))] follows (by kernel_rfl) rfl rfl rfl rfl rfl rfl rfl rfl rfl ?_ ?_ ?_
 ·exact⟨⟨_,rfl,zIA rfl rfl rfl (by show (0:Int)<=(i:Int);omega) (by simpa using hsc)⟩,trivial⟩
 ·exact⟨⟨_,rfl,zIA rfl rfl rfl (by show (0:Int)<=(i:Int);omega) (by simpa using hsc)⟩,trivial⟩
 refine zA ?_
 refine ACode.drawCS tabOk 14 10 11 12 13 (.one (.ptr (.o 0) 0)) (.one (.ptr (.o 0) 0)) []
  (GrS (mC tc0 ec0 vc0 kc m.out m.steps fu ⟨.sl 2 (fns.map cFun),kt⟩) m.out.length ou0 H (mC tc0 ec0 vc0 kc m.out m.steps fu ⟨.sl 2 (fns.map cFun),kt⟩) (1,[(0,.cells (cFun f)),(0,.cells (List.map AC.lit ti97.zero))]) fun v H1=>∃c,v=.one c/\ER H1 nm (allE .nil f.params d) c)
  (GrS (mC tc0 ec0 vc0 kc m.out m.steps fu ⟨.sl 2 (fns.map cFun),kt⟩) m.out.length ou0 H (mC (.box (cTr f.body)) ec0 vc0 kc m.out m.steps fu ⟨.sl 2 (fns.map cFun),kt⟩) (1,[(0,.cells (cFun f)),(0,.cells (List.map AC.lit ti97.zero))]) fun v H1=>∃c,v=.one c/\ER H1 nm (allE .nil f.params d) c)
  follows (by kernel_rfl) rfl rfl (by decide) (by kernel_rfl) (by kernel_rfl) rfl rfl rfl rfl rfl rfl rfl ?_ ?_ trivial (fun _ _ _=>trivial) (fun _ _ _=>trivial) ?_ ?_ ?_ ?_ ?_
 ·rintro v σ ⟨ou1,H1,rfl,_,_⟩;rfl
 ·rintro v σ ⟨ou1,H1,rfl,_,_⟩;rfl
 ·refine Q1c.ofR (Q0n.call hΓ rfl rfl rfl rfl ⟨trivial,by simp,hdi,trivial⟩ hw.ok (Qd4 hΓ (.nil (H:=H) (nm:=nm)) hd hpl h20 _ hw.inO) fun r ou' hq hr ho=>?_)
  obtain⟨H1,c1,rfl,hg,hec⟩:=hq
  exact GrS.of hg ⟨c1,rfl,hec⟩
 ·rintro v σ ⟨ou1,H1,rfl,_,_,rfl,_⟩;exact AStep.ofOp tabOk rfl
 ·rintro v σ ⟨ou1,H1,rfl,_,_,rfl,_⟩;exact AStep.ofOp tabOk rfl
 ·rintro v σ ⟨ou1,H1,rfl,h1,h2⟩;exact⟨_,⟨ou1,H1,setXs _ _ _ _ _ _,h1,h2⟩,AStep.ofStore tabOk rfl⟩
 ·rintro v' σ ⟨ou1,H1,rfl,h1,c1,rfl,h3⟩
  refine zA ?_
  have hw2:=hw.gro h1 (by simp[ouX]) (by simp[ouX])
  have hM:MR fu ⟨.sl 2 (fns.map cFun),kt⟩ _ H1 nm { m with c:=.ev f.body (allE .nil f.params d),k:=k }:=MR.ofEv (ou':=(St.set ⟨0,[],ouX (mC (.box (cTr f.body)) ec0 vc0 kc m.out m.steps fu ⟨.sl 2 (fns.map cFun),kt⟩) m.out.length ou1⟩ (.o 0) (.cells (mC (.box (cTr f.body)) c1 vc0 kc m.out m.steps fu ⟨.sl 2 (fns.map cFun),kt⟩))).ou) hw2 h3 (hk.mo (h1.mo nm)) h0.ids.2.2.1 hfc rfl rfl (fun _=>rfl)
  refine AFn.fin' rfl (WkF.refl _) (by simp) hM.ok ⟨rfl,H1,nm,_,?_,h1.mo nm,hM⟩
  rfl
end
section
variable {fu:Int}{kt:Nat}{fns:List Fun}{ou:Outer}{H:Hm}{nm:Nm2}{m:Ms}{k:List Fm}{kc tc0 ec0 vc0:AC}
theorem VsR.va:∀{l:List Vl}{cs:List (List AC)},VsR H nm l cs->∃lv:List VA,cs=lv.map cV
 |_,_,.nil=>⟨[],rfl⟩
 |_,_,.cons v c vs cs hv h=>by
  obtain⟨lv,rfl⟩:=VsR.va h
  exact⟨⟨c,hv.ids⟩::lv,rfl⟩
theorem Qmo(hΓ:∀g cs,(g,cs)∈Γ->idsL isO cs)(h0:M0 fu ⟨.sl 2 (fns.map cFun),kt⟩ ou H nm m tc0 ec0 vc0 kc)(hk:KR H nm k kc){n:Nat}{sl:List Vl}{c:AC}(hv:VR H nm (.cap (n:Int) sl) c){f:Fun}(hf:fns[n]?=some f){l:List Vl}{cs:List (List AC)}(hl:VsR H nm l cs)(hpl:f.params.length=l.length+1)(h20:f.params.length<=1048576):
  AFn Tryz.prog Γ 109 [.one (.ptr (.o 0) 0),.one c,.one (.sl 1 cs)] ou (StQ fu ⟨.sl 2 (fns.map cFun),kt⟩ H nm (.ok { m with c:=.ev f.body (allE .nil f.params (.cap (n:Int) sl::l)),k:=k })):=by
 have hfc:(FcT.mk (.sl 2 (fns.map cFun)) kt).ids isO:=by show idsS isO _;simp
 have hoX:=h0.ouX
 have hki:=hk.ids
 have hvi:=hv.ids
 have hli:=hl.ids
 have hll:=hl.len
 rw[hoX]
 have hw:=h0.w
 rw[hoX]at hw
 generalize hmc:ou=ou0 at hw
 clear hoX
 have hvl:=VsR.cons (H:=H) (nm:=nm) _ _ _ _ hv hl
 obtain⟨lv,rfl⟩:=hl.va
 obtain⟨scs,rfl⟩:∃scs,c=iB tCap [int n,.sl 1 scs]:=by
  rcases hv.isCap with ⟨g,fs,cs,h1,h2,h3⟩|⟨h1,_⟩
  ·cases h1;exact⟨cs,h2⟩
  ·exact absurd rfl (h1 _ sl)
 have n1:notT tClo (iB tCap [int n,.sl 1 scs]):=.inr ⟨_,_,_,rfl,rfl⟩
 have hsc:(fns.map cFun)[n]?=some (cFun f):=by rw[List.getElem?_map,hf];rfl
 have hcat:=Qho (Γ:=Γ) hΓ [[⟨iB tCap [int n,.sl 1 scs],hvi⟩],lv] (by simp) (by simp;simp at hll;omega)
 refine AFn.walk 137 tabOk Tryz.func109 rfl (by kernel_rfl) rfl rfl fun hou=>?_
 refine zA ?_
 refine zS (AStep.assertNo Q4y rfl zClo rfl rfl n1) ?_
 refine zA ?_
 refine zS (AStep.assertYes Q4h rfl rfl) ?_
 refine zA ?_
 refine ACode.drawXA tabOk 11 10 [(8,.one (.box (cFun f)))] follows (by kernel_rfl) rfl rfl rfl rfl rfl rfl rfl rfl rfl ?_ ?_ ?_
 ·exact⟨⟨_,rfl,zIA rfl rfl rfl (by show (0:Int)<=(n:Int);omega) (by simpa using hsc)⟩,trivial⟩
 ·exact⟨⟨_,rfl,zIA rfl rfl rfl (by show (0:Int)<=(n:Int);omega) (by simpa using hsc)⟩,trivial⟩
 refine zM ?_
 refine ACode.cond rfl (fun _=>?_) (fun hb=>absurd hb (by simp at hll;simp;omega))
 refine zA ?_
 refine ACode.stEq (σ':=⟨2,[(1,.cells (cFun f)),(1,.cells (List.map AC.lit ti97.zero)),(0,.cells [.ptr (.o 0) 0])],ouX (mC tc0 ec0 vc0 kc m.out m.steps fu ⟨.sl 2 (fns.map cFun),kt⟩) m.out.length ou0⟩) rfl ?_
 refine ACode.drawC2 tabOk 16 [11,12,13,14,15] [(7,.one (iB tCap [int n,.sl 1 scs])),(8,.one (.sl 1 [[iB tCap [int n,.sl 1 scs]]])),(10,.one (.sl 1 [[.sl 1 [[iB tCap [int n,.sl 1 scs]]]],[.sl 1 (lv.map cV)]]))] (fun vs σ=>match vs with
  |[]=>σ=⟨2,[(1,.cells (cFun f)),(1,.cells (List.map AC.lit ti97.zero)),(0,.cells [.ptr (.o 0) 0])],ouX (mC tc0 ec0 vc0 kc m.out m.steps fu ⟨.sl 2 (fns.map cFun),kt⟩) m.out.length ou0⟩
  |[x]=>x=.one (.sl 1 ([[⟨iB tCap [int n,.sl 1 scs],hvi⟩],lv].flatten.map cV))/\σ=⟨2,[(1,.cells (cFun f)),(1,.cells (List.map AC.lit ti97.zero)),(0,.cells [.ptr (.o 0) 0])],ouX (mC tc0 ec0 vc0 kc m.out m.steps fu ⟨.sl 2 (fns.map cFun),kt⟩) m.out.length ou0⟩
  |[x,y]=>GrS (mC tc0 ec0 vc0 kc m.out m.steps fu ⟨.sl 2 (fns.map cFun),kt⟩) m.out.length ou0 H (mC tc0 ec0 vc0 kc m.out m.steps fu ⟨.sl 2 (fns.map cFun),kt⟩) (2,[(1,.cells (cFun f)),(1,.cells (List.map AC.lit ti97.zero)),(0,.cells [.ptr (.o 0) 0])]) (fun v H1=>∃c,v=.one c/\ER H1 nm (allE .nil f.params (.cap (n:Int) sl::l)) c) y σ
  |[x,y,a]=>GrS (mC tc0 ec0 vc0 kc m.out m.steps fu ⟨.sl 2 (fns.map cFun),kt⟩) m.out.length ou0 H (mC tc0 ec0 vc0 kc m.out m.steps fu ⟨.sl 2 (fns.map cFun),kt⟩) (2,[(1,.cells (cFun f)),(1,.cells (List.map AC.lit ti97.zero)),(0,.cells [.ptr (.o 0) 0])]) (fun v H1=>∃c,v=.one c/\ER H1 nm (allE .nil f.params (.cap (n:Int) sl::l)) c) y σ/\a=.one (.ptr (.o 0) 0)
  |[x,y,a,b]=>GrS (mC tc0 ec0 vc0 kc m.out m.steps fu ⟨.sl 2 (fns.map cFun),kt⟩) m.out.length ou0 H (mC tc0 ec0 vc0 kc m.out m.steps fu ⟨.sl 2 (fns.map cFun),kt⟩) (2,[(1,.cells (cFun f)),(1,.cells (List.map AC.lit ti97.zero)),(0,.cells [.ptr (.o 0) 0])]) (fun v H1=>∃c,v=.one c/\ER H1 nm (allE .nil f.params (.cap (n:Int) sl::l)) c) y σ/\a=.one (.ptr (.o 0) 0)/\b=.one (.ptr (.o 0) 0)
  |[x,y,a,b,s]=>GrS (mC tc0 ec0 vc0 kc m.out m.steps fu ⟨.sl 2 (fns.map cFun),kt⟩) m.out.length ou0 H (mC (.box (cTr f.body)) ec0 vc0 kc m.out m.steps fu ⟨.sl 2 (fns.map cFun),kt⟩) (2,[(1,.cells (cFun f)),(1,.cells (List.map AC.lit ti97.zero)),(0,.cells [.ptr (.o 0) 0])]) (fun v H1=>∃c,v=.one c/\ER H1 nm (allE .nil f.params (.cap (n:Int) sl::l)) c) y σ/\a=.one (.ptr (.o 0) 0)/\b=.one (.ptr (.o 0) 0)/\s=.bot
  |_=>False) follows (by kernel_rfl) rfl rfl (by decide) (by kernel_rfl) (by kernel_rfl) rfl rfl ?_ ?_ (by decide) ?_ ?_
 ·intro vs σ h
  match vs with
  |[]=>subst h;rfl
  |[_]=>obtain⟨_,rfl⟩:=h;rfl
  |[_,_]=>obtain⟨_,_,rfl,_⟩:=h;rfl
  |[_,_,_]=>obtain⟨⟨_,_,rfl,_⟩,_⟩:=h;rfl
  |[_,_,_,_]=>obtain⟨⟨_,_,rfl,_⟩,_⟩:=h;rfl
  |[_,_,_,_,_]=>obtain⟨⟨_,_,rfl,_⟩,_⟩:=h;rfl
  |_::_::_::_::_::_::_=>exact h.elim
 ·intro vs σ h
  exact⟨⟨_,rfl,HStep.plain rfl (AStep.mkIfc Q4h rfl rfl)⟩,⟨_,rfl,HStep.auto tabOk rfl⟩,⟨_,rfl,HStep.auto tabOk rfl⟩,trivial⟩
 ·intro vs σ h i o hi ho
  match vs with
  |[]=>
   subst h;cases hi;cases ho
   refine⟨rfl,.inl (.inr ⟨rfl,Q0n.call hΓ rfl rfl rfl rfl ⟨by simp[hvi],trivial⟩ hw.ok (hcat _) fun r ou' hq hr ho=>?_⟩)⟩
   obtain⟨rfl,rfl⟩:=hq
   exact⟨rfl,rfl⟩
  |[x]=>
   obtain⟨rfl,rfl⟩:=h;cases hi;cases ho
   refine⟨rfl,.inl (.inr ⟨rfl,Q0n.call hΓ rfl rfl rfl rfl ⟨trivial,by simp,Qma _,trivial⟩ hw.ok (Qd4 hΓ (.nil (H:=H) (nm:=nm)) (by simpa[cV]using hvl) (by simpa using hpl) h20 _ hw.inO) fun r ou' hq hr ho=>?_⟩)⟩
   obtain⟨H1,c1,rfl,hg,hec⟩:=hq
   exact GrS.of (L:=(2,[(1,.cells (cFun f)),(1,.cells (List.map AC.lit ti97.zero)),(0,.cells [.ptr (.o 0) 0])])) hg ⟨c1,rfl,hec⟩
  |[x,y]=>obtain⟨ou1,H1,rfl,h1,h2⟩:=h;cases hi;cases ho;exact⟨rfl,.inl (.inl ⟨_,_,AStep.ofOp tabOk rfl,⟨ou1,H1,rfl,h1,h2⟩,rfl⟩)⟩
  |[x,y,a]=>obtain⟨⟨ou1,H1,rfl,h1,h2⟩,rfl⟩:=h;cases hi;cases ho;exact⟨rfl,.inl (.inl ⟨_,_,AStep.ofOp tabOk rfl,⟨ou1,H1,rfl,h1,h2⟩,rfl,rfl⟩)⟩
  |[x,y,a,b]=>obtain⟨⟨ou1,H1,rfl,h1,h2⟩,rfl,rfl⟩:=h;cases hi;cases ho;exact⟨rfl,.inl (.inl ⟨_,_,AStep.ofStore tabOk rfl,⟨ou1,H1,setXs _ _ _ _ _ _,h1,h2⟩,rfl,rfl,rfl⟩)⟩
  |_::_::_::_::_::_=>cases hi
 ·intro vs σ hlen h
  match vs,hlen with
  |[x,y,a,b,s],_=>
   obtain⟨⟨ou1,H1,rfl,h1,c1,rfl,h3⟩,rfl,rfl,rfl⟩:=h
   refine zA ?_
   have hw2:=hw.gro h1 (by simp[ouX]) (by simp[ouX])
   have hM:MR fu ⟨.sl 2 (fns.map cFun),kt⟩ _ H1 nm { m with c:=.ev f.body (allE .nil f.params (.cap (n:Int) sl::l)),k:=k }:=MR.ofEv (ou':=(St.set ⟨0,[],ouX (mC (.box (cTr f.body)) ec0 vc0 kc m.out m.steps fu ⟨.sl 2 (fns.map cFun),kt⟩) m.out.length ou1⟩ (.o 0) (.cells (mC (.box (cTr f.body)) c1 vc0 kc m.out m.steps fu ⟨.sl 2 (fns.map cFun),kt⟩))).ou) hw2 h3 (hk.mo (h1.mo nm)) h0.ids.2.2.1 hfc rfl rfl (fun _=>rfl)
   refine AFn.fin' rfl (WkF.refl _) (by simp) hM.ok ⟨rfl,H1,nm,_,?_,h1.mo nm,hM⟩
   rfl
end
end Go.Proofs.YtkgjldchcbfpnaaGreatDoor
