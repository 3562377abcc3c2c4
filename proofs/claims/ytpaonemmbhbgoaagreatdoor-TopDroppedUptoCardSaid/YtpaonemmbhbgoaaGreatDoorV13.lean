/- The evaluator's plain nodes, and what a node does when its operands stand, walked. -/
import Derived.Test.YtpaonemmbhbgoaaGreatDoorV12
import Derived.Test.YtpaonemmbhbgoaaGreatDoorChecked
import Derived.RangeFuncBox
import Derived.RangeFuncLeaves
import Derived.WalkKit
import Derived.OwnWalkIn
import Derived.TacticsInMore
import Derived.LoopNIn
import Derived.LoopIn
import Derived.KernelRfl
set_option maxRecDepth 10000
set_option linter.unusedVariables false
set_option linter.unusedSimpArgs false
namespace Go.Proofs.YtpaonemmbhbgoaaGreatDoor
open Go Go.Abs Go.CoreX
variable {Γ:List (Nat×List AC)}
section
variable {fu:Int}{fc:FcT}{fns:List Fun}{ou:Outer}{H:Hm}{nm:Nm2}{m m1:Ms}{v:Vl}{tc ec vc kc:AC}{t:Tr}{e:En}{d:List Vl}{k:List Fm}{dc:List (List AC)}{tc0 ec0 vc0 kc0:AC}
theorem Qjc(hΓ:∀g cs,(g,cs)∈Γ->idsL isO cs)(hd:VsR H nm d dc)(h8:t.op=8)(hp:AFn Tryz.prog Γ 170 [.one (.ptr (.o 0) 0),.one (int t.n),.one (.sl 1 dc)] ou (PlQ fu fc H nm m1 v tc ec vc kc)):
  AFn Tryz.prog Γ 142 [.one (.ptr (.o 0) 0),.one (.box (cTr t)),.one (.sl 1 dc)] ou (PlQ fu fc H nm m1 v tc ec vc kc):=by
 have hdi:=hd.ids
 refine AFn.walk 85 tabOk Tryz.func142 rfl (by kernel_rfl) rfl rfl fun hou=>?_
 cases t with
 |mk to tn tb tk ta=>
 obtain rfl:to=8:=h8
 refine zA ?_
 refine AOps.call1 hΓ rfl rfl rfl rfl rfl rfl rfl ⟨trivial,trivial,hdi,trivial⟩ hou hp fun r ou' hq hids how=>?_
 obtain⟨kt,H1,nm1,c,rfl,hq⟩:=hq
 refine zA ?_
 exact AFn.fin' rfl (WkF.refl _) hids how ⟨kt,H1,nm1,c,rfl,hq⟩
theorem Qfz(h0:M0 fu fc ou H nm m tc0 ec0 vc0 kc0)(hk:KR H nm k kc)(hfc:fc.ids isO):M0 fu fc (ouX (mC tc0 ec0 vc0 kc m.out m.steps fu fc) m.out.length ou) H nm m tc0 ec0 vc0 kc:=by
 have hw:=h0.w
 rw[h0.ouX]at hw
 exact⟨⟨h0.ids.1,h0.ids.2.1,h0.ids.2.2.1,hk.ids⟩,rfl,hw.put (mc':=mC tc0 ec0 vc0 kc m.out m.steps fu fc) (by simp[mC,h0.ids.1,h0.ids.2.1,h0.ids.2.2.1,hk.ids,hfc]) rfl rfl (fun _=>rfl)⟩
theorem kid_app(hΓ:∀g cs,(g,cs)∈Γ->idsL isO cs)(h0:M0 fu fc ou H nm m tc0 ec0 vc0 kc0)(hfc:fc.ids isO)(he:ER H nm e ec){v0:Vl}{c0:AC}{ds:List (List AC)}(hv0:VR H nm v0 c0)(hd:VsR H nm d ds)(hk:KR H nm k kc)(hl:d.length+1=t.kids.length)(h3:t.op=3){x:Except Int Ms}
  (hcl:∀ou',M0 fu fc ou' H nm m tc0 ec0 vc0 kc->AFn Tryz.prog Γ 138 [.one (.ptr (.o 0) 0),.one c0,.one (.sl 1 ds)] ou' (StQ fu fc H nm x)):
  AFn Tryz.prog Γ 111 [.one (.ptr (.o 0) 0),.one (.box [.box (cTr t),ec,.sl 1 ([c0]::ds),kc])] ou (StQ fu fc H nm x):=by
 have hN:=Qfz h0 hk hfc
 have hei:=he.ids
 have hdi:=hd.ids
 have hvi:=hv0.ids
 have hki:=hk.ids
 have hdl:=hd.len
 have hop:opdN t=t.kids.length:=by unfold opdN;rw[if_neg (by rw[h3];decide)]
 have hoX:=h0.ouX
 rw[hoX]
 generalize hmc:ou=ou0 at hN
 clear hoX
 refine AFn.walk 262 tabOk Tryz.func111 rfl (by kernel_rfl) rfl rfl fun hou=>?_
 refine zA ?_
 refine ACode.drawX tabOk 10 [(9,.one (int (opdN t)))] follows (by kernel_rfl) rfl rfl rfl rfl ?_ ?_
 ·exact⟨⟨_,rfl,AStep.callPure hΓ rfl rfl rfl (by simp[idsF]) hou (Q96 t)⟩,trivial⟩
 refine zA ?_
 refine ACode.cond rfl (fun hb=>absurd hb (by simp[hdl,hop];omega)) (fun hb=>?_)
 refine zA ?_
 refine ACode.stEq (σ':=⟨0,[],ouX (mC tc0 ec0 vc0 kc m.out m.steps fu fc) m.out.length ou0⟩) (setX _ _ _ _) ?_
 refine ACode.cond rfl (fun hb=>absurd hb (by simp[h3])) (fun _=>?_)
 refine zA ?_
 refine ACode.cond rfl (fun hb=>absurd hb (by simp[h3])) (fun _=>?_)
 refine zA ?_
 refine ACode.cond rfl (fun _=>?_) (fun hb=>absurd hb (by simp[h3]))
 refine zA ?_
 refine ACode.drawX tabOk 12 [(5,.one (.box [c0])),(11,.one (.sl 1 ds))] follows (by kernel_rfl) rfl rfl rfl rfl ?_ ?_
 ·exact⟨⟨_,rfl,zIA rfl rfl rfl (by decide) rfl⟩,⟨_,rfl,AStep.sliceFrom (b:=1) (es:=[c0]::ds) tabOk rfl rfl rfl rfl rfl rfl rfl (by simp)⟩,trivial⟩
 refine zA ?_
 refine AOps.call1 hΓ rfl rfl rfl rfl rfl rfl rfl ⟨trivial,hvi,hdi,trivial⟩ hN.w.ok (hcl _ hN) fun r ou' hq _ how=>?_
 obtain⟨rfl,H',nm',m',hx,hmo,hM⟩:=hq
 refine zA ?_
 exact StQ.fin rfl hx hmo hM
theorem Qlp(hΓ:∀g cs,(g,cs)∈Γ->idsL isO cs)(h0:M0 fu fc ou H nm m tc0 ec0 vc0 kc0)(hfc:fc.ids isO)(he:ER H nm e ec)(hd:VsR H nm d dc)(hk:KR H nm k kc)(hl:d.length=opdN t)(hn:¬(t.op=4∨t.op=7∨t.op=3∨t.op=13∨t.op=12∨t.op=14∨t.op=15∨t.op=16))
  (hpl:∀ou',M0 fu fc ou' H nm m tc0 ec0 vc0 kc->AFn Tryz.prog Γ 142 [.one (.ptr (.o 0) 0),.one (.box (cTr t)),.one (.sl 1 dc)] ou' (PlQ fu fc H nm m1 v tc0 ec0 vc0 kc)):
  AFn Tryz.prog Γ 111 [.one (.ptr (.o 0) 0),.one (.box [.box (cTr t),ec,.sl 1 dc,kc])] ou (StQ fu fc H nm (.ok { m1 with c:=.rt v,k:=k })):=by
 have hN:=Qfz h0 hk hfc
 simp only[not_or]at hn
 have hei:=he.ids
 have hdi:=hd.ids
 have hki:=hk.ids
 have hdl:=hd.len
 have hoX:=h0.ouX
 rw[hoX]
 generalize hmc:ou=ou0 at hN
 clear hoX
 refine AFn.walk 262 tabOk Tryz.func111 rfl (by kernel_rfl) rfl rfl fun hou=>?_
 refine zA ?_
 refine ACode.drawX tabOk 10 [(9,.one (int (opdN t)))] follows (by kernel_rfl) rfl rfl rfl rfl ?_ ?_
 ·exact⟨⟨_,rfl,AStep.callPure hΓ rfl rfl rfl (by simp[idsF]) hou (Q96 t)⟩,trivial⟩
 refine zA ?_
 refine ACode.cond rfl (fun hb=>absurd hb (by simp[hdl,hl])) (fun hb=>?_)
 refine zA ?_
 refine ACode.stEq (σ':=⟨0,[],ouX (mC tc0 ec0 vc0 kc m.out m.steps fu fc) m.out.length ou0⟩) (setX _ _ _ _) ?_
 refine ACode.cond rfl (fun hb=>absurd hb (by simp[hn.1])) (fun _=>?_)
 refine zA ?_
 refine ACode.cond rfl (fun hb=>absurd hb (by simp[hn.2.1])) (fun _=>?_)
 refine zA ?_
 refine ACode.cond rfl (fun hb=>absurd hb (by simp[hn.2.2.1])) (fun _=>?_)
 refine zA ?_
 refine ACode.cond rfl (fun hb=>absurd hb (by simp[hn.2.2.2.1])) (fun _=>?_)
 refine zA ?_
 refine ACode.cond rfl (fun hb=>absurd hb (by simp[hn.2.2.2.2.1])) (fun _=>?_)
 refine zA ?_
 refine ACode.cond rfl (fun hb=>absurd hb (by simp[hn.2.2.2.2.2.1])) (fun _=>?_)
 refine zA ?_
 refine ACode.cond rfl (fun hb=>absurd hb (by simp[hn.2.2.2.2.2.2.1])) (fun _=>?_)
 refine zA ?_
 refine ACode.cond rfl (fun hb=>absurd hb (by simp[hn.2.2.2.2.2.2.2])) (fun _=>?_)
 refine zA ?_
 refine ACode.drawCS tabOk 15 11 12 13 14 (.one (.ptr (.o 0) 0)) (.one (.ptr (.o 0) 0)) []
  (fun r σ=>∃kt H1 nm1 c ou1,r=.one c/\σ=⟨0,[],ouX (mC tc0 ec0 vc0 kc m1.out m1.steps fu ⟨fc.ac,kt⟩) m1.out.length ou1⟩/\Mo H nm H1 nm1/\VR H1 nm1 v c/\WR (ouX (mC tc0 ec0 vc0 kc m1.out m1.steps fu ⟨fc.ac,kt⟩) m1.out.length ou1) H1 nm1 m1.heap)
  (fun r σ=>∃kt H1 nm1 c ou1,r=.one c/\σ=⟨0,[],ouX (mC nilPE ec0 vc0 kc m1.out m1.steps fu ⟨fc.ac,kt⟩) m1.out.length ou1⟩/\Mo H nm H1 nm1/\VR H1 nm1 v c/\WR (ouX (mC tc0 ec0 vc0 kc m1.out m1.steps fu ⟨fc.ac,kt⟩) m1.out.length ou1) H1 nm1 m1.heap)
  follows (by kernel_rfl) rfl rfl (by decide) (by kernel_rfl) (by kernel_rfl) rfl rfl rfl rfl rfl rfl rfl ?_ ?_ trivial (fun _ _ _=>trivial) (fun _ _ _=>trivial) ?_ ?_ ?_ ?_ ?_
 ·rintro r σ ⟨kt,H1,nm1,c,ou1,rfl,rfl,_⟩;rfl
 ·rintro r σ ⟨kt,H1,nm1,c,ou1,rfl,rfl,_⟩;rfl
 ·refine Q61.ofR (Q13.call hΓ rfl rfl rfl rfl ⟨trivial,by simp,hdi,trivial⟩ hN.w.ok (hpl _ hN) fun r ou' hq hr ho=>?_)
  obtain⟨kt,H1,nm1,c,rfl,h1,h2,h3⟩:=hq
  have hw:=h3.w
  have e:=h3.ouX
  rw[e]at hw
  exact⟨kt,H1,nm1,c,ou',rfl,by rw[←e],h1,h2,hw⟩
 ·rintro r σ ⟨kt,H1,nm1,c,ou1,rfl,rfl,_⟩;exact AStep.ofOp tabOk rfl
 ·rintro r σ ⟨kt,H1,nm1,c,ou1,rfl,rfl,_⟩;exact AStep.ofOp tabOk rfl
 ·rintro r σ ⟨kt,H1,nm1,c,ou1,rfl,rfl,h1⟩;exact⟨_,⟨kt,H1,nm1,c,ou1,rfl,setX _ _ _ _,h1⟩,AStep.ofStore tabOk rfl⟩
 ·rintro r σ ⟨kt,H1,nm1,c,ou1,rfl,rfl,h1,h2,h3⟩
  refine zA ?_
  have hM:MR fu ⟨fc.ac,kt⟩ (St.set ⟨0,[],ouX (mC nilPE ec0 vc0 kc m1.out m1.steps fu ⟨fc.ac,kt⟩) m1.out.length ou1⟩ (.o 0) (.cells (mC nilPE ec0 c kc m1.out m1.steps fu ⟨fc.ac,kt⟩))).ou H1 nm1 { m1 with c:=.rt v,k:=k }:=MR.ofRt h3 h2 (hk.mo h1) h0.ids.2.1 hfc rfl rfl (fun _=>rfl)
  exact StQ.fin rfl rfl h1 ⟨hM.ex⟩
end
end Go.Proofs.YtpaonemmbhbgoaaGreatDoor
namespace Go.Abs
theorem AStep.less{E:Env}{o:Oper}{fr:Fr}{σ σ1 σ2:St}{x:FV}(h:AStep E o fr σ x σ1)(hn:σ2.n=σ1.n)(hs:∀i o,σ2.get i=some o->σ1.get i=some o):AStep E o fr σ x σ2:=
 fun F w C tmps hi hf next Q hk=>h F w C tmps hi hf next Q fun u w' C' hg hi' hr=>
  hk u w' C' hg ⟨hi'.base,by rw[hn];exact hi'.next,hi'.glob,hi'.prot,fun i o ho=>hi'.obj i o (hs i o ho),fun i j o o' g h1 h2 h3 h4=>hi'.inj i j o o' g (hs i o h1) (hs j o' h2) h3 h4⟩ hr
theorem AStep.weakV{E:Env}{o:Oper}{fr:Fr}{σ σ':St}{x y:FV}(h:AStep E o fr σ x σ')(hw:WkF x y):AStep E o fr σ y σ':=
 fun F w C tmps hi hf next Q hk=>h F w C tmps hi hf next Q fun u w' C' hg hi' hr=>hk u w' C' hg hi' (hw _ _ _ hr)
end Go.Abs
namespace Go.Proofs.YtpaonemmbhbgoaaGreatDoor
open Go Go.Abs Go.CoreX
variable {Γ:List (Nat×List AC)}
def Qmz (cs:List (List AC))(ou:Outer)(r:FV)(ou':Outer):Prop:=
 (cs=[]/\r=.one (.lit (.slice none 0 0))/\ou'=ou)∨∃q,r=.one (.gs 1 cs (.o q))/\ou' q=some (.tok 94 1 cs.length)/\ou q=none/\∀m,m≠q->ou' m=ou m
theorem Qmj(hΓ:∀g cs,(g,cs)∈Γ->idsL isO cs)(cs:List (List AC))(hl:cs.length<=1048576)(hi:idsS isO cs)(h1:∀x∈cs,x.length=1)(ou:Outer):AFn Tryz.prog Γ 112 [.one (.sl 1 cs)] ou (Qmz cs ou):=by
 refine AFn.walk 8 tabOk Tryz.func112 rfl (by kernel_rfl) rfl rfl fun hou=>?_
 refine zA ?_
 refine AOps.nilTest rfl rfl rfl rfl Tryz.underlying150 rfl rfl fun b hb=>?_
 cases b with
 |true=>
  have hz:cs=[]:=by have:=hb rfl;simpa using this
  subst hz
  refine zA ?_
  exact AFn.fin' rfl (.refl _) (by simp) hou (.inl ⟨rfl,rfl,rfl⟩)
 |false=>
  refine zA ?_
  refine zS (AStep.buildSlice0 tabOk rfl rfl rfl rfl rfl) ?_
  refine zA ?_
  refine AOps.app tabOk rfl rfl rfl rfl rfl rfl rfl rfl rfl (Base.gs' _ _ _ _ _ (by rfl) (by simp)) (.sl _ _) rfl (by simp;show _ * 16<=_;omega) (by simp;omega) ?_
  refine AOps.cedes [1] rfl (by decide) hou fun q hq=>⟨[(7,.one (.gs 1 ([]++cs) (.o q)))],[],[.tok 94 1 ([]++cs).length],.gs rfl (by simpa using hi) rfl .nil,.nil,.cons rfl rfl .nil,?_⟩
  have hN:=NewO.add hq hou (show (AObj.tok 94 1 ([]++cs).length).ids isO from trivial)
  refine zA ?_
  refine AFn.fin' rfl (WkF.ofEq rfl) ⟨trivial,by simpa using hi⟩ hN.ok (.inr ⟨q,by simp,?_,hN.new q (by simp[keys]),fun m hm=>hN.old m (by simp[keys];exact hm)⟩)
  have:=hN.own (q,_) (List.mem_singleton.2 rfl)
  simpa using this
section
variable {fu:Int}{ac:AC}{fns:List Fun}{G:GP}
def KidC (fu:Int)(ac:AC)(G:GP)(Γ:List (Nat×List AC)):Prop:=∀(ou:Outer)(H:Hm)(nm:Nm2)(m m':Ms)(t:Tr)(e:En)(d:List Vl)(k:List Fm)(ec kc tc0 ec0 vc0 kc0:AC)(dc:List (List AC))(kt:Nat),M0 fu ⟨ac,kt⟩ ou H nm m tc0 ec0 vc0 kc0->ER H nm e ec->VsR H nm d dc->KR H nm k kc->
 allT G.p t->gE G e->gVs G d->d.length<=opdN t->nLf t.op->gFs G k->(G.R->k.length<=1048576)->m.out.length<=1000->kidM fu G.fns m (.mk t e d) k=.ok m'->(G.R->m'.k.length<=1048576)->AFn Tryz.prog Γ 111 [.one (.ptr (.o 0) 0),.one (.box [.box (cTr t),ec,.sl 1 dc,kc])] ou (StQ fu ⟨ac,kt⟩ H nm (.ok m'))
def bndX (fu:Int)(fns:List Fun):Nat->Ms->Bool
 |0,m=>decide (m.k.length<=1048576)
 |g+1,m=>decide (m.k.length<=1048576)&&(match Q1d fu fns m with
  |.next m'=>bndX fu fns g m'
  |_=>true)
theorem bndX_k{fns:List Fun}{g:Nat}{m:Ms}(h:bndX fu fns g m=true):m.k.length<=1048576:=by
 cases g with
 |zero=>simpa[bndX]using h
 |succ g=>simp only[bndX,Bool.and_eq_true,decide_eq_true_eq]at h;exact h.1
def StartC (fu:Int)(ac:AC)(G:GP)(Γ:List (Nat×List AC)):Prop:=∀(ou:Outer)(H:Hm)(nm:Nm2)(m m':Ms)(t:Tr)(e:En)(ec vc kc:AC)(kt:Nat),M0 fu ⟨ac,kt⟩ ou H nm m (.box (cTr t)) ec vc kc->ER H nm e ec->KR H nm m.k kc->
 allT G.p t->gE G e->gFs G m.k->(G.R->m.k.length<=1048576)->m.out.length<=1000->Q3c fu G.fns m t e=.ok m'->(G.R->m'.k.length<=1048576)->AFn Tryz.prog Γ 113 [.one (.ptr (.o 0) 0)] ou (StQ fu ⟨ac,kt⟩ H nm (.ok m'))
theorem VsR.ones{H:Hm}{nm:Nm2}:∀{v:List Vl}{c:List (List AC)},VsR H nm v c->∀x∈c,x.length=1
 |_,_,.nil,x,hx=>by cases hx
 |_,_,.cons v c vs cs hv h,x,hx=>by
  rcases List.mem_cons.1 hx with rfl|hx
  ·rfl
  ·exact VsR.ones h x hx
theorem run_ok(hΓ:∀g cs,(g,cs)∈Γ->idsL isO cs)(hac:ac.ids isO)(hG:GPok G)(hopn:∀t,allT G.p t->opdN t<=1048576)(hkid:KidC fu ac G Γ)(hstart:StartC fu ac G Γ){ou:Outer}{H:Hm}{nm:Nm2}{m0:Ms}{kt0:Nat}(h0:MR fu ⟨ac,kt0⟩ ou H nm m0)(hg0:gM G m0){g0:Nat}{mf:Ms}{vf:Vl}(hgo:goX fu G.fns g0 m0=some (.done mf vf))(hbd:G.R->bndX fu G.fns g0 m0=true)(hol:mf.out.length<=1000)(hfu:0<=fu/\fu<=1000000)(hst0:0<=m0.steps)(hmf:mf.steps<=fu):
  AFn Tryz.prog Γ 90 [.one (.ptr (.o 0) 0)] ou (fun r ou'=>r=.one (.lit (.bool true))/\mf.c=.rt vf/\mf.k=[]/\∃H' nm',MR fu ⟨ac,kt0⟩ ou' H' nm' mf):=by
 refine AFn.walk 70 tabOk Tryz.func90 rfl (by kernel_rfl) rfl rfl fun hou=>?_
 refine zA ?_
 refine ACode.loopR hΓ (α:=Outer×Hm×Nm2×Ms) (fun a=>[(0,.one (.ptr (.o 0) 0))]) (fun a=>⟨0,[],a.1⟩) (fun g a=>MR fu ⟨ac,kt0⟩ a.1 a.2.1 a.2.2.1 a.2.2.2/\gM G a.2.2.2/\goX fu G.fns g a.2.2.2=some (.done mf vf)/\0<=a.2.2.2.steps/\(G.R->bndX fu G.fns g a.2.2.2=true))
  (a0:=(ou,H,nm,m0)) (ρ:=_root_.id) ⟨h0,hg0,hgo,hst0,hbd⟩ (LessR.of rfl zFW (by simp) zLO rfl rfl hou) fun g a ha=>?_
 obtain⟨ou1,H1,nm1,m⟩:=a
 obtain⟨hM,hgm,hgo,hst,hbx⟩:=ha
 dsimp only at hM hgm hgo hst hbx ⊢
 clear hou h0 hg0 hst0 hbd
 obtain⟨kt,tc,ec,vc,kc,hCR,hKR,h0⟩:=hM.ex
 have hou:=h0.w.ok
 have holm:m.out.length<=1000:=by
  rcases Qm9 hgo with h|h
  ·exact Nat.le_trans h hol
  ·cases h
 obtain⟨g,rfl⟩:∃g',g=g'+1:=by
  cases g with
  |zero=>cases hgo
  |succ g=>exact⟨g,rfl⟩
 simp only[goX]at hgo
 have hkl:G.R->m.k.length<=1048576:=fun hR=>by have:=hbx hR;simp only[bndX,Bool.and_eq_true,decide_eq_true_eq]at this;exact this.1
 have hbn:G.R->∀m1,Q1d fu G.fns m=.next m1->bndX fu G.fns g m1=true:=fun hR m1 h1=>by have:=hbx hR;simp only[bndX,h1,Bool.and_eq_true]at this;exact this.2
 have hids:=h0.ids
 have hoX:=h0.ouX
 have hki:=hKR.ids
 have hw:=h0.w
 rw[hoX]at hw hou ⊢
 obtain⟨mc,mk,mo,ms,mh⟩:=m
 dsimp only at hgo hst hw hou hids hki holm h0 hkl hbn ⊢
 cases hCR with
 |ev t e ec vc he=>
  have hei:=he.ids
  have hsf:¬ms=fu:=fun h=>by
   simp[Q1d,h]at hgo
  rw[Qc8 rfl hsf]at hgo
  have hox:∃m',Q3c fu G.fns ⟨.ev t e,mk,mo,ms+1,mh⟩ t e=.ok m':=by
   cases hx:Q3c fu G.fns ⟨.ev t e,mk,mo,ms+1,mh⟩ t e with
   |ok m'=>exact⟨m',rfl⟩
   |error c=>simp only[hx,rdOf]at hgo;cases hgo
  obtain⟨m',hx⟩:=hox
  simp only[hx,rdOf]at hgo
  have hgm':gM G m':=Qhd hG hgm (by rw[Qc8 rfl hsf,hx];rfl)
  have hbn':G.R->bndX fu G.fns g m'=true:=fun hR=>hbn hR m' (by rw[Qc8 rfl hsf,hx];rfl)
  have haf:=Qh6 (fu:=fu) (fns:=G.fns) hx
  have hfu':m'.steps<=fu:=Int.le_trans (goX_ge hgo (by simp)) hmf
  simp only at haf
  refine zA ?_
  refine zS (AStep.neNilBox Tryz.underlying81 rfl rfl rfl) ?_
  refine zM ?_
  refine zS (AStep.eqNilBox Tryz.underlying81 rfl rfl rfl) ?_
  refine zA ?_
  refine ACode.drawX tabOk 8 [] follows (by kernel_rfl) rfl rfl rfl rfl trivial ?_
  refine zA ?_
  refine ACode.cond rfl (fun hb=>absurd (by simpa using hb) hsf) (fun _=>?_)
  refine zM ?_
  have hN:M0 fu ⟨ac,kt⟩ (St.set ⟨0,[],ouX (mC (.box (cTr t)) ec vc kc mo ms fu ⟨ac,kt⟩) mo.length ou1⟩ (.o 0) (.cells (mC (.box (cTr t)) ec vc kc mo (ms+1) fu ⟨ac,kt⟩))).ou H1 nm1 ⟨.ev t e,mk,mo,ms+1,mh⟩ (.box (cTr t)) ec vc kc:=
   ⟨hids,rfl,hw.put (mc':=mC (.box (cTr t)) ec vc kc mo (ms+1) fu ⟨ac,kt⟩) (by simp[mC,hids,hei,hki,hac]) rfl rfl (fun _=>rfl)⟩
  refine AOps.call1 hΓ rfl rfl rfl rfl rfl rfl rfl ⟨trivial,trivial⟩ hN.w.ok (hstart _ H1 nm1 _ m' t e ec vc kc kt hN he hKR hgm.c.1 hgm.c.2 hgm.k hkl holm hx fun hR=>bndX_k (hbn' hR)) fun r ou2 hq _ how=>?_
  obtain⟨rfl,H',nm',m2,hx2,hmo,hM2⟩:=hq
  cases hx2
  refine zA ?_
  exact cInv ⟨g,(ou2,H',nm',m'),_root_.id,by omega,⟨⟨hM2.ex⟩,hgm',hgo,by dsimp only;omega,hbn'⟩,LessR.of rfl zFW (by simp) zLO rfl rfl how⟩
 |rt v ec vc hv=>
  have hvi:=hv.ids
  cases hKR with
  |nil=>
   have hr:Q1d fu G.fns ⟨.rt v,[],mo,ms,mh⟩=.done ⟨.rt v,[],mo,ms,mh⟩ v:=by simp[Q1d]
   rw[hr]at hgo
   cases hgo
   refine zA ?_
   refine zS (AStep.neNil0 Tryz.underlying81 rfl rfl rfl) ?_
   refine zM ?_
   refine zS (AStep.neNil0 Tryz.underlying95 rfl rfl rfl) ?_
   refine zM ?_
   refine AFn.fin' rfl (WkF.ofEq rfl) (by simp) hou ⟨rfl,rfl,rfl,H1,nm1,⟨⟨kt,nilPE,ec,vc,nilPE,.rt _ ec vc hv,.nil,?_⟩⟩⟩
   rw[←hoX];exact h0
  |cons t e d k ec2 dc kc2 he hd hk=>
   have hei:=he.ids
   have hdi:=hd.ids
   have hk2i:=hk.ids
   have hgf:=hgm.k
   obtain⟨⟨g1,g2,g3,g4,gn⟩,g5⟩:=hgf
   have hdl:=hd.len
   rw[Qc7 (f:=.mk t e d) (k:=k) rfl rfl]at hgo
   have hox:∃m',kidM fu G.fns ⟨.rt v,.mk t e d::k,mo,ms,mh⟩ (.mk t e (d++[v])) k=.ok m':=by
    cases hx:kidM fu G.fns ⟨.rt v,.mk t e d::k,mo,ms,mh⟩ (.mk t e (d++[v])) k with
    |ok m'=>exact⟨m',rfl⟩
    |error c=>simp only[Fm.t_mk,Fm.e_mk,Fm.done_mk,hx,rdOf]at hgo;cases hgo
   obtain⟨m',hx⟩:=hox
   simp only[Fm.t_mk,Fm.e_mk,Fm.done_mk,hx,rdOf]at hgo
   have hgm':gM G m':=Qhd hG hgm (by rw[Qc7 (fu:=fu) (f:=.mk t e d) (k:=k) rfl rfl];simp only[Fm.t_mk,Fm.e_mk,Fm.done_mk,hx];rfl)
   have hbn':G.R->bndX fu G.fns g m'=true:=fun hR=>hbn hR m' (by rw[Qc7 (fu:=fu) (f:=.mk t e d) (k:=k) rfl rfl];simp only[Fm.t_mk,Fm.e_mk,Fm.done_mk,hx];rfl)
   have haf:=(Q7f hx d v (.inl rfl)).ge
   simp only at haf
   have hopt:=hopn t g1
   have hD:VsR H1 nm1 (d++[v]) (dc++[[vc]]):=hd.snoc hv
   have hDi:=hD.ids
   have hcl:=Qmj hΓ dc (by omega) hdi hd.ones
   refine zA ?_
   refine zS (AStep.neNil0 Tryz.underlying81 rfl rfl rfl) ?_
   refine zM ?_
   refine zS (AStep.neNilBox Tryz.underlying95 rfl rfl rfl) ?_
   refine zM ?_
   refine zS (AStep.eqNil0 Tryz.underlying81 rfl rfl rfl) ?_
   refine zA ?_
   have hkd:=hkid (ouX (mC nilPE ec vc (.box [.box (cTr t),ec2,.sl 1 dc,kc2]) mo ms fu ⟨ac,kt⟩) mo.length ou1) H1 nm1 ⟨.rt v,.mk t e d::k,mo,ms,mh⟩ m' t e (d++[v]) k ec2 kc2 nilPE ec vc (.box [.box (cTr t),ec2,.sl 1 dc,kc2]) (dc++[[vc]]) kt (by rw[←hoX];exact h0) he hD hk g1 g2 (Qg7 g3 ⟨hgm.c,trivial⟩) (by simp;omega) gn g5 (fun hR=>by have:=hkl hR;simp only[List.length_cons]at this;omega) holm hx fun hR=>bndX_k (hbn' hR)
   refine ACode.drawC2 tabOk 26 [13,19,24,25] [(18,.one (.sl 1 [[vc]]))] (fun vs σ=>match vs with
    |[]=>σ=⟨0,[],ouX (mC nilPE ec vc (.box [.box (cTr t),ec2,.sl 1 dc,kc2]) mo ms fu ⟨ac,kt⟩) mo.length ou1⟩
    |[a]=>∃ou2,Qmz dc (ouX (mC nilPE ec vc (.box [.box (cTr t),ec2,.sl 1 dc,kc2]) mo ms fu ⟨ac,kt⟩) mo.length ou1) a (ouX (mC nilPE ec vc (.box [.box (cTr t),ec2,.sl 1 dc,kc2]) mo ms fu ⟨ac,kt⟩) mo.length ou2)/\σ=⟨0,[],ouX (mC nilPE ec vc (.box [.box (cTr t),ec2,.sl 1 dc,kc2]) mo ms fu ⟨ac,kt⟩) mo.length ou2⟩
    |[a,b]=>b=.one (.sl 1 (dc++[[vc]]))/\σ=⟨1,[],ouX (mC nilPE ec vc (.box [.box (cTr t),ec2,.sl 1 dc,kc2]) mo ms fu ⟨ac,kt⟩) mo.length ou1⟩
    |[a,b,c]=>b=.one (.sl 1 (dc++[[vc]]))/\c=.agg [.box (cTr t),ec2,.sl 1 (dc++[[vc]]),kc2]/\σ=⟨1,[],ouX (mC nilPE ec vc (.box [.box (cTr t),ec2,.sl 1 dc,kc2]) mo ms fu ⟨ac,kt⟩) mo.length ou1⟩
    |[a,b,c,g]=>b=.one (.sl 1 (dc++[[vc]]))/\c=.agg [.box (cTr t),ec2,.sl 1 (dc++[[vc]]),kc2]/\g=.one (.box [.box (cTr t),ec2,.sl 1 (dc++[[vc]]),kc2])/\σ=⟨1,[],ouX (mC nilPE ec vc (.box [.box (cTr t),ec2,.sl 1 dc,kc2]) mo ms fu ⟨ac,kt⟩) mo.length ou1⟩
    |_=>False) follows (by kernel_rfl) rfl rfl (by decide) (by kernel_rfl) (by kernel_rfl) rfl rfl ?_ ?_ (by decide) ?_ ?_
   ·intro vs σ h
    match vs with
    |[]=>subst h;rfl
    |[_]=>obtain⟨_,_,rfl⟩:=h;rfl
    |[_,_]=>obtain⟨_,rfl⟩:=h;rfl
    |[_,_,_]=>obtain⟨_,_,rfl⟩:=h;rfl
    |[_,_,_,_]=>obtain⟨_,_,_,rfl⟩:=h;rfl
    |_::_::_::_::_::_=>exact h.elim
   ·intro vs σ h
    exact⟨⟨_,rfl,HStep.auto tabOk rfl⟩,trivial⟩
   ·intro vs σ h i o hi ho
    match vs with
    |[]=>
     subst h;cases hi;cases ho
     refine⟨rfl,.inl (.inr ⟨rfl,Q13.call hΓ rfl rfl rfl rfl ⟨hdi,trivial⟩ hou (hcl _) fun r ou' hq hr ho=>?_⟩)⟩
     have e:ou'=ouX (mC nilPE ec vc (.box [.box (cTr t),ec2,.sl 1 dc,kc2]) mo ms fu ⟨ac,kt⟩) mo.length ou':=Qe1 (by
      rcases hq with ⟨_,_,rfl⟩|⟨q,_,_,h1,h2⟩
      ·rfl
      ·rw[h2 0 (by rintro rfl;cases h1)];rfl)
     exact⟨ou',by rw[←e];exact hq,by rw[←e]⟩
    |[a]=>
     obtain⟨ou2,hq,rfl⟩:=h;cases hi;cases ho
     rcases hq with ⟨rfl,rfl,h1⟩|⟨q,rfl,h1,h2,h3⟩
     ·refine⟨rfl,.inl (.inl ⟨_,_,AStep.less (σ2:=⟨1,[],ouX (mC nilPE ec vc (.box [.box (cTr t),ec2,.sl 1 _,kc2]) mo ms fu ⟨ac,kt⟩) mo.length ou1⟩) (AStep.weakV (AStep.append tabOk rfl rfl rfl rfl rfl rfl (Base.nil _ _) (.sl 1 [[vc]]) rfl (by show (0+1) * 16<=140737488355328;decide) (by simp)) (.one (.gsE (by simp)))) rfl ?_,rfl,rfl⟩)⟩
      intro i o hi
      cases i with
      |l j=>cases hi
      |o j=>exact (congrFun h1 j).trans hi
     ·refine⟨rfl,.inl (.inl ⟨_,_,AStep.less (σ2:=⟨1,[],ouX (mC nilPE ec vc (.box [.box (cTr t),ec2,.sl 1 _,kc2]) mo ms fu ⟨ac,kt⟩) mo.length ou1⟩) (AStep.weakV (AStep.append tabOk rfl rfl rfl rfl rfl rfl (Base.gs' _ _ _ _ _ h1 rfl) (.sl 1 [[vc]]) rfl (by simp;show _ * 16<=_;omega) (by simp;omega)) (.one (.gsE (by simp)))) rfl ?_,rfl,rfl⟩)⟩
      intro i o hi
      cases i with
      |l j=>cases hi
      |o j=>
       have hjq:j≠q:=by rintro rfl;have h5:=hi;simp only[St.get]at h5;rw[h2]at h5;cases h5
       have h4:=h3 j hjq
       show (bif Nat.beq j q then some AObj.dead else _)=some o
       rw[Q0a hjq]
       exact h4.trans hi
    |[_,_]=>obtain⟨rfl,rfl⟩:=h;cases hi;cases ho;exact⟨rfl,.inl (.inl ⟨_,_,AStep.ofOp tabOk rfl,rfl,rfl,rfl⟩)⟩
    |[_,_,_]=>obtain⟨rfl,rfl,rfl⟩:=h;cases hi;cases ho;exact⟨rfl,.inl (.inl ⟨_,_,AStep.boxI rfl rfl,rfl,rfl,rfl,rfl⟩)⟩
    |_::_::_::_::_=>cases hi
   ·intro vs σ hl h
    match vs with
    |[a,_,_,_]=>
     obtain⟨rfl,rfl,rfl,rfl⟩:=h
     refine AOps.call1 hΓ rfl rfl rfl rfl rfl rfl rfl ⟨trivial,⟨by simp,hei,hDi,hk2i,trivial⟩,trivial⟩ hou hkd fun r ou2 hq _ how=>?_
     obtain⟨rfl,H',nm',m2,hx2,hmo,hM2⟩:=hq
     cases hx2
     refine zA ?_
     exact cInv ⟨g,(ou2,H',nm',m'),_root_.id,by omega,⟨⟨hM2.ex⟩,hgm',hgo,by dsimp only;omega,hbn'⟩,LessR.of rfl zFW (by simp) zLO rfl rfl how⟩
    |[]|[_]|[_,_]|[_,_,_]=>cases hl
    |_::_::_::_::_::_=>exact h.elim
end
structure FragL (hi:Bool)(l:Lab):Prop where
 sh:shpQ l
 op:0<=l.op/\l.op<=8∨hi=true/\(l.op=12∨l.op=13)
 pr:l.op=8->l.n=0∨l.n=1∨l.n=2∨l.n=5∨l.n=6∨l.n=7
 bl:l.binds.length<=1048576
 al:l.alts.length<=1048576
 ab:∀a∈l.alts,a.binds.length<=1048576
 kl:l.ops.length<=1048576
 wd:l.op=1->inW l.n
 rc:l.op=5->∀i,i < l.binds.length->l.ops[i]?=some 2
def G1 (hi:Bool):GP:={ p:=FragL hi,S:=fun _=>True,W:=inW,fns:=[],R:=hi=true }
theorem Qn4{a b:Int}(ha:inW a)(hb:inW b):inW (a.tmod b):=by
 have h1:(a.tmod b).natAbs<=a.natAbs:=by
  rw[Int.natAbs_tmod];exact Nat.mod_le _ _
 unfold inW at *
 have h2:-1073741824<=a.tmod b:=by
  rcases Int.le_total 0 a with h|h
  ·have:=Int.tmod_nonneg b h;omega
  ·omega
 have h3:a.tmod b<=1073741823:=by
  rcases Int.le_total 0 a with h|h
  ·omega
  ·have h4:a.tmod b=-((-a).tmod b):=by rw[Int.neg_tmod];omega
   have:=Int.tmod_nonneg b (show 0<=-a by omega)
   omega
 exact⟨h2,h3⟩
theorem G1ok(hi:Bool):GPok (G1 hi) where
 sh:=fun l h=>h.sh
 bnd:=fun _ _ _ _=>trivial
 wd:=fun l h h1=>h.wd h1
 rc:=fun l h h1=>h.rc h1
 wr:=fun n=>by show inW (wrapW n);unfold inW wrapW;omega
 wl:=fun n h0 h1=>by show inW n;unfold inW;omega
 wm:=fun a b ha hb=>Qn4 ha hb
 fn:=fun f hf=>by cases hf
 cl:=fun l h ho=>by
  exfalso
  rcases h.op with h1|⟨_,h1⟩ <;> omega
 rs:=fun l h ho=>by
  rcases h.op with h1|⟨h1,_⟩
  ·omega
  ·exact h1
theorem G1opn{hi:Bool}{t:Tr}(h:allT (G1 hi).p t):opdN t<=1048576:=by
 have F:FragL hi ⟨t.op,t.n,t.binds,t.kids.map Tr.op,t.alts⟩:=Q2n h
 have:=F.kl
 simp at this
 unfold opdN
 split <;> omega
section
variable {fu:Int}{ac:AC}
theorem list1{α:Type}{l:List α}(h:l.length=1):∃a,l=[a]:=by
 match l,h with
 |[a],_=>exact⟨a,rfl⟩
theorem list2{α:Type}{l:List α}(h:l.length=2):∃a b,l=[a,b]:=by
 match l,h with
 |[a,b],_=>exact⟨a,b,rfl⟩
theorem Qk5{v:Vl}{n:Int}(h:wordV v=.ok n):v=.word n:=by
 cases v with
 |word m=>cases h;rfl
 |_=>cases h
theorem Qjb{m m':Ms}{n:Int}{a b v:Vl}(hn:n=0∨n=1∨n=2∨n=5∨n=6)(h:primM fu m n [a,b]=.ok (m',v)):∃x y,a=.word x/\b=.word y:=by
 cases hx:wordV a with
 |error c=>
  exfalso
  rcases hn with rfl|rfl|rfl|rfl|rfl <;> simp[primM,hx,bind,Except.bind]at h
 |ok x=>
  cases hy:wordV b with
  |error c=>
   exfalso
   rcases hn with rfl|rfl|rfl|rfl|rfl <;> simp[primM,hx,hy,bind,Except.bind]at h
  |ok y=>exact⟨x,y,Qk5 hx,Qk5 hy⟩
end
theorem idle_ok(a b c d:Value)(w:World):CallsD Tryz.prog 89 #[a,b,c,d] .returning w fun e u' w'=>(∃v,e=.returned v)/\u'=.returning/\w'=w:=by
 refine callsD_of_wpS Tryz.func89 rfl fun c₀ cs hu=>?_
 apply wpS_seq
 apply wpS_region
 simp[wpOpsS,go_sem,recoverD,hu,Tryz.ntmps89,Exit.thenS]
 apply wpS_seq
 apply wpS_region
 simp[wpOpsS,go_sem,recoverD,hu,Exit.thenS]
 refine wpS_cond (t:=false) (by simp[Act.eval,Array.replicate]) ?_
 simp only[Bool.false_eq_true,if_false]
 refine wpS_of_wp (wp_skip ?_)
 cases c₀
 simp_all[bodyPostS,results,Tryz.results89]
section
variable {fu:Int}{ac:AC}{G:GP}
theorem Qn2(hΓ:∀g cs,(g,cs)∈Γ->idsL isO cs){ou:Outer}{mf:Ms}{vf:Vl}{kt0:Nat}
  (hrun:AFn Tryz.prog Γ 90 [.one (.ptr (.o 0) 0)] ou (fun r ou'=>r=.one (.lit (.bool true))/\mf.c=.rt vf/\mf.k=[]/\∃H' nm',MR fu ⟨ac,kt0⟩ ou' H' nm' mf)):
  AFn Tryz.prog Γ 60 [.one (.ptr (.o 0) 0)] ou (fun r ou'=>r=.tup [.agg [.sl 1 (mf.out.map cI),int 0,int (lastV vf)],.one (int mf.steps),.one (int 0)]):=by
 refine AFn.ofDefer (gd:=89) (d5:=5) (first:=[]) (caps:=[.ptr (.l 0) 0,.ptr (.l 1) 0,.ptr (.l 2) 0,.ptr (.l 3) 0]) (fr1:=[(4,.one (.ptr (.l 3) 0)),(3,.one (.ptr (.l 2) 0)),(2,.one (.ptr (.l 1) 0)),(1,.one (.ptr (.l 0) 0)),(0,.one (.ptr (.o 0) 0))])
  (σ1 := ⟨4, [(3, .cells [int 0]), (2, .cells [int 0]), (1, .cells [.lit (.slice none 0 0), int 0, int 0]), (0, .cells [.ptr (.o 0) 0])], ou⟩)
  tabOk Tryz.func60 rfl (by kernel_rfl) (by decide) ?_ rfl rfl (by decide) (AStep.ofOp tabOk rfl) rfl rfl rfl ?_ ?_
 ·intro hou
  refine zA ?_
  exact⟨rfl,rfl,rfl⟩
 ·intro us w
  refine⟨?_,fun hs=>?_⟩
  ·simp[callFunc,Tryz.func89,Tryz.f89]
  ·obtain⟨l⟩:=us
   match l,hs with
   |[a,b,c,d],_=>exact idle_ok a b c d w
 ·intro hou ds
  refine zA ?_
  refine AOps.call1 hΓ rfl rfl rfl rfl rfl rfl rfl ⟨trivial,trivial⟩ hou hrun fun r ou' hq _ how=>?_
  obtain⟨rfl,hc,hk,H',nm',hM⟩:=hq
  obtain⟨kt,tc,ec,vc,kc,hCR,hKR,h0⟩:=hM.ex
  rw[hc]at hCR
  cases hCR with
  |rt _ ec vc hv=>
   have hvi:=hv.ids
   have hoX:=h0.ouX
   rw[hoX]at how ⊢
   refine zA ?_
   refine ACode.drawSt tabOk 15 14 [(8,.one (int (lastV vf)))] _ follows (by kernel_rfl) rfl rfl (by kernel_rfl) rfl ?_ rfl rfl rfl rfl ?_ ?_ (AStep.ofStore tabOk rfl) ?_
   ·rfl
   ·exact⟨⟨_,rfl,AStep.callPure hΓ rfl rfl rfl ⟨hvi,trivial⟩ how (Qlk hv)⟩,trivial⟩
   ·exact⟨⟨_,rfl,AStep.callPure hΓ rfl rfl rfl ⟨hvi,trivial⟩ how (Qlk hv)⟩,trivial⟩
   refine zA ?_
   exact AFn.fin' rfl (WkF.tup (.cons (.agg (.cons (.gsE rfl) (.cons (.refl _) (.cons (.refl _) .nil)))) (.cons (.refl _) (.cons (.refl _) .nil)))) (by simp) how rfl
end
abbrev nilS:AC:=.lit (.slice none 0 0)
theorem MR_init(t:Tr)(fu:Int):MR fu ⟨nilS,1⟩ (ouOf [.cells (mC (.box (cTr t)) nilPE (.lit .nilIface) nilPE [] 0 fu ⟨nilS,1⟩),.tok 3 1 0]) (fun _=>none) [] ⟨.ev t .nil,[],[],0,[]⟩:=by
 refine⟨⟨1,_,_,_,_,.ev t .nil nilPE (.lit .nilIface) .nil,.nil,⟨⟨by simp,trivial,trivial,trivial⟩,rfl,⟨fun k cs hk=>(by cases hk),fun k o hk=>?_,rfl,fun a k n h=>(by simp at h),fun a k n h=>rfl,fun a b k n n' h=>(by simp at h),⟨rfl,fun a k n h=>(by simp at h)⟩,fun cs hc es i hi=>?_,fun k o hk=>?_⟩⟩⟩⟩
 ·match k,hk with
  |0,hk=>cases hk;exact⟨by simp,trivial,trivial,trivial,⟨trivial,trivial⟩,trivial,trivial,trivial,trivial⟩
  |1,hk=>cases hk;trivial
  |k+2,hk=>simp[ouOf]at hk
 ·cases hc
  cases hi
  exact⟨1,rfl,Nat.le_refl _,rfl,rfl,fun a k n h=>by simp at h⟩
 ·match k,hk with
  |0,hk=>cases hk;trivial
  |1,hk=>cases hk;trivial
  |k+2,hk=>simp[ouOf]at hk
section
variable {fu:Int}{fc:FcT}{fns:List Fun}{ou:Outer}{H:Hm}{nm:Nm2}{m:Ms}{tc0 ec0 vc0 kc0:AC}{t:Tr}{e:En}{d:List Vl}{k:List Fm}{ec:AC}{dc:List (List AC)}{kc:AC}
theorem Qjp(hΓ:∀g cs,(g,cs)∈Γ->idsL isO cs)(h0:M0 fu fc ou H nm m tc0 ec0 vc0 kc0)(hfc:fc.ids isO)(he:ER H nm e ec)(hd:VsR H nm d dc)(hk:KR H nm k kc){v:Vl}(hdv:d=[v]){s:Tr}{id:Int}{al0:Alt}(h4:t.op=13)(hs:t.kids[1]?=some s)(hal:t.alts[0]?=some al0)(hbn:al0.binds=[id]):
  AFnP Tryz.prog Γ 111 [.one (.ptr (.o 0) 0),.one (.box [.box (cTr t),ec,.sl 1 dc,kc])] ou (StQ fu fc H nm (kidM fu fns m (.mk t e d) k)) (StP m (kidM fu fns m (.mk t e d) k)):=by
 have hoX:=h0.ouX
 have hei:=he.ids
 have hdi:=hd.ids
 have hki:=hk.ids
 have hdl:=hd.len
 have hop:opdN t=1:=by unfold opdN;rw[if_pos (.inr (.inr (.inl h4)))]
 subst hdv
 obtain⟨y,hy,hvy⟩:=hd.get (i:=0) rfl
 rw[hoX]
 have hw:=h0.w
 rw[hoX]at hw
 generalize hmc:ou=ou0 at hw
 clear hoX
 refine AFnP.walk 262 tabOk hΓ Tryz.func111 rfl (by kernel_rfl) rfl rfl fun hou=>?_
 refine zA ?_
 refine ACode.drawX tabOk 10 [(9,.one (int (opdN t)))] follows (by kernel_rfl) rfl rfl rfl rfl ?_ ?_
 ·exact⟨⟨_,rfl,AStep.callPure hΓ rfl rfl rfl (by simp[idsF]) hou (Q96 t)⟩,trivial⟩
 refine zA ?_
 refine ACode.cond rfl (fun hb=>absurd hb (by simp[hdl,hop])) (fun hb=>?_)
 refine zA ?_
 refine ACode.stEq (σ':=⟨0,[],ouX (mC tc0 ec0 vc0 kc m.out m.steps fu fc) m.out.length ou0⟩) (setX _ _ _ _) ?_
 have hw1:WR (ouX (mC tc0 ec0 vc0 kc m.out m.steps fu fc) m.out.length ou0) H nm m.heap:=hw.put (by simp[mC,h0.ids.1,h0.ids.2.1,h0.ids.2.2.1,hki,hfc]) rfl rfl (fun _=>rfl)
 have hyi:=hvy.ids
 have hsc:(Q0y t.kids)[1]?=some [.box (cTr s)]:=Q2g hs
 have hac:(t.alts.map cAlt)[0]?=some (cAlt al0):=by rw[List.getElem?_map,hal];rfl
 have hbc:(al0.binds.map cI)[0]?=some [int id]:=by rw[hbn];rfl
 have d4:¬t.op=4:=by omega
 have d7:¬t.op=7:=by omega
 have d3:¬t.op=3:=by omega
 refine ACode.cond rfl (fun hb=>absurd hb (by simp[d4])) (fun _=>?_)
 refine zA ?_
 refine ACode.cond rfl (fun hb=>absurd hb (by simp[d7])) (fun _=>?_)
 refine zA ?_
 refine ACode.cond rfl (fun hb=>absurd hb (by simp[d3])) (fun _=>?_)
 refine zA ?_
 refine ACode.cond rfl (fun _=>?_) (fun hb=>absurd hb (by simp[h4]))
 refine ACode.drawCS tabOk 37 33 34 35 36 (.one (.ptr (.o 0) 0)) (.one (.ptr (.o 0) 0)) [(9,.one (.box [.box (cTr s)])),(22,.one (.box (cAlt al0))),(25,.one (.box [int id])),(31,.one (.box [y]))]
  (GrP (mC tc0 ec0 vc0 kc m.out m.steps fu fc) m.out.length ou0 H (mC tc0 ec0 vc0 kc m.out m.steps fu fc) fun v H1=>∃q,v=.one (.ptr (.o q) 0)/\H1 q=some [int id,y,ec])
  (GrP (mC tc0 ec0 vc0 kc m.out m.steps fu fc) m.out.length ou0 H (mC (.box (cTr s)) ec0 vc0 kc m.out m.steps fu fc) fun v H1=>∃q,v=.one (.ptr (.o q) 0)/\H1 q=some [int id,y,ec])
  follows (by kernel_rfl) rfl rfl (by decide) (by kernel_rfl) (by kernel_rfl) rfl rfl rfl rfl rfl rfl rfl ?_ ?_ ?_ ?_ ?_ ?_ ?_ ?_ ?_ ?_
 ·rintro v σ ⟨ou1,H1,rfl,_,_⟩;rfl
 ·rintro v σ ⟨ou1,H1,rfl,_,_⟩;rfl
 ·exact⟨⟨_,rfl,zIA rfl rfl rfl (by decide) hsc⟩,⟨_,rfl,zIA rfl rfl rfl (by decide) hac⟩,⟨_,rfl,zIA rfl rfl rfl (by decide) hbc⟩,⟨_,rfl,zIA rfl rfl rfl (by decide) hy⟩,trivial⟩
 ·rintro v σ ⟨ou1,H1,rfl,_,_⟩
  exact⟨⟨_,rfl,zIA rfl rfl rfl (by decide) hsc⟩,⟨_,rfl,zIA rfl rfl rfl (by decide) hac⟩,⟨_,rfl,zIA rfl rfl rfl (by decide) hbc⟩,⟨_,rfl,zIA rfl rfl rfl (by decide) hy⟩,trivial⟩
 ·rintro v σ ⟨ou1,H1,rfl,_,_⟩
  exact⟨⟨_,rfl,zIA rfl rfl rfl (by decide) hsc⟩,⟨_,rfl,zIA rfl rfl rfl (by decide) hac⟩,⟨_,rfl,zIA rfl rfl rfl (by decide) hbc⟩,⟨_,rfl,zIA rfl rfl rfl (by decide) hy⟩,trivial⟩
 ·refine Q61.ofR (Q13.call hΓ rfl rfl rfl rfl ⟨hei,trivial,hyi,trivial⟩ hw1.ok (Qfi id y ec hyi hei _) fun r ou' hq hr ho=>?_)
  obtain⟨q,rfl,hN⟩:=hq
  exact GrP.of (Gro.add hw1.inO hN) ⟨q,rfl,by simp[addH]⟩
 ·rintro v σ ⟨ou1,H1,rfl,_,q,rfl,_⟩;exact AStep.ofOp tabOk rfl
 ·rintro v σ ⟨ou1,H1,rfl,_,q,rfl,_⟩;exact AStep.ofOp tabOk rfl
 ·rintro v σ ⟨ou1,H1,rfl,h1,h2⟩;exact⟨_,⟨ou1,H1,setX _ _ _ _,h1,h2⟩,AStep.ofStore tabOk rfl⟩
 ·rintro v' σ ⟨ou1,H1,rfl,h1,q,rfl,h3⟩
  refine zA ?_
  have hw2:=hw1.gro h1 (by simp[ouX]) (by simp[ouX])
  have hM:MR fu fc _ H1 nm { m with c:=.ev s (.bind id v e),k:=k }:=MR.ofEv (ou':=(St.set ⟨0,[],ouX (mC (.box (cTr s)) ec0 vc0 kc m.out m.steps fu fc) m.out.length ou1⟩ (.o 0) (.cells (mC (.box (cTr s)) (.ptr (.o q) 0) vc0 kc m.out m.steps fu fc))).ou) hw2 (.bind id v e q y ec h3 (hvy.mo (h1.mo nm)) (he.mo (h1.mo nm))) (hk.mo (h1.mo nm)) h0.ids.2.2.1 hfc rfl rfl (fun _=>rfl)
  refine AFn.fin' rfl (WkF.refl _) (by simp) hM.ok ⟨rfl,H1,nm,_,?_,h1.mo nm,hM⟩
  unfold kidM
  rw[if_neg (show ¬(Fm.mk t e [v]).done.length < opdN (Fm.mk t e [v]).t by simp[hop]),if_neg (show ¬(Fm.mk t e [v]).t.op=4 from d4),if_neg (show ¬(Fm.mk t e [v]).t.op=7 from d7),if_neg (show ¬(Fm.mk t e [v]).t.op=3 from d3),if_pos (show (Fm.mk t e [v]).t.op=13 from h4)]
  simp only[Fm.done_mk,Fm.t_mk,Fm.e_mk]
  rw[List.getD_eq_getElem?_getD,hs,List.getD_eq_getElem?_getD (l:=t.alts),hal]
  simp only[Option.getD_some,hbn]
  rfl
end
def PfB (mc mc':List AC)(n:Nat)(ou0:Outer)(H:Hm)(b0 b1:Int)(vc ec rc:AC)(y:FV)(σ:St):Prop:=∃q q2 ou1 H1,y=.one (.ptr (.o q2) 0)/\σ=⟨0,[],ouX mc' n ou1⟩/\Gro (ouX mc n ou0) H (ouX mc n ou1) H1/\H1 q=some [int b0,vc,ec]/\H1 q2=some [int b1,rc,.ptr (.o q) 0]
section
variable {fu:Int}{fc:FcT}{ou:Outer}{H:Hm}{nm:Nm2}{m m':Ms}{tc0 ec0 vc0 kc:AC}{k:List Fm}{op:Int}{v:Vl}{vc:AC}
theorem Qjd(hΓ:∀g cs,(g,cs)∈Γ->idsL isO cs)(h0:M0 fu fc ou H nm m tc0 ec0 vc0 kc)(hfc:fc.ids isO)(hk:KR H nm k kc)(hv:VR H nm v vc)(hkl:k.length<=1048576){G:GP}(hGp:∀l,G.p l->FragL true l)(hg:gFs G k)(hx:Q16 m op v [] k=.ok m'):
  AFn Tryz.prog Γ 139 [.one (.ptr (.o 0) 0),.one (int op),.one vc] ou (StQ fu fc H nm (.ok m')):=by
 have hvi:=hv.ids
 have hki:=hk.ids
 have hoX:=h0.ouX
 have hw:=h0.w
 rw[hoX]
 rw[hoX]at hw
 generalize hmc:ou=ou0 at hw
 clear hoX
 refine AFn.walk 99 tabOk Tryz.func139 rfl (by kernel_rfl) rfl rfl fun hou=>?_
 refine zA ?_
 refine ACode.growS 6 95 1 rfl ?_
 refine ACode.loopR hΓ (α:=List Fm×AC×List Fm×List (List AC)) (fun c=>[(7,.one c.2.1),(6,.one (.gs 1 c.2.2.2 (.l 0))),(0,.one (.ptr (.o 0) 0)),(1,.one (int op)),(2,.one vc)])
  (fun c=>⟨1,[(0,.tok 95 1 c.2.2.2.length)],ouX (mC tc0 ec0 vc0 kc m.out m.steps fu fc) m.out.length ou0⟩) (fun n c=>(KR H nm c.1 c.2.1/\FsR H nm c.2.2.1 c.2.2.2/\Q16 m op v c.2.2.1 c.1=.ok m'/\gFs G c.1/\c.2.2.2.length+c.1.length<=1048576)/\n=c.1.length) (a0:=(k,kc,[],[])) (ρ:=_root_.id) ⟨⟨hk,.nil,hx,hg,by simpa using hkl⟩,rfl⟩
  (LessR.of rfl (FrSub.consP rfl (.ofEq rfl) hki (FrSub.consGs rfl rfl (by simp) (FrSub.cons rfl (.ofEq rfl) (FrSub.cons rfl (.ofEq rfl) (FrSub.consP rfl (.ofEq rfl) hvi .nil))))) ⟨Q1x hki 1,⟨by simp,trivial⟩,trivial,trivial,Q1x hvi 1,trivial⟩ zLO rfl rfl hou) fun n c hc=>?_
 obtain⟨kk,kcc,L,lc⟩:=c
 obtain⟨⟨hkk,hL,hpm,hgk,hlen⟩,rfl⟩:=hc
 dsimp only at hkk hL hpm hgk hlen
 clear hx hg hkl hk hki
 cases hkk with
 |nil=>cases hpm
 |cons t e d k' ec dc kc' he hd hk'=>
  have hei:=he.ids
  have hdi:=hd.ids
  have hki:=hk'.ids
  have hLi:=hL.ids
  have hfi:=(KR.cons t e d k' ec dc kc' he hd hk').ids
  refine zA ?_
  refine zS (AStep.neNilBox Tryz.underlying95 rfl rfl rfl) ?_
  refine zM ?_
  have hlen':lc.length+1<=1048576:=by simp only[List.length_cons]at hlen;omega
  refine AOps.app tabOk rfl rfl rfl rfl rfl rfl rfl rfl rfl (Base.gs' _ 95 1 _ _ rfl rfl) (.sl _ _) rfl ?_ ?_ ?_
  ·show (lc.length+1) * 8<=_;omega
  ·show lc.length+1<=_;omega
  have hL2:FsR H nm (L++[.mk t e d]) (lc++[[.box [.box (cTr t),ec,.sl 1 dc,kc']]]):=hL.snoc (.mk t e d ec dc kc' hki he hd)
  have hL2i:=hL2.ids
  generalize hlc:lc++[[AC.box [.box (cTr t),ec,.sl 1 dc,kc']]]=lc2 at hL2 hL2i
  have hl2:lc2.length=lc.length+1:=by rw[←hlc];simp
  refine zA ?_
  refine ACode.cond rfl (fun hb=>?_) (fun hb=>?_)
  ·have h13:¬t.op=13:=by simpa using hb
   have hpn:Q16 m op v (L++[.mk t e d]) k'=.ok m':=by
    unfold Q16 at hpm
    rw[Fm.t_mk,if_neg h13]at hpm
    exact hpm
   refine zM ?_
   exact cInv ⟨k'.length,(k',kc',L++[.mk t e d],lc2),(fun q=>if q=0 then 1 else q),by simp,⟨⟨hk',hL2,hpn,hgk.2,by simp only[List.length_cons]at hlen;dsimp only;omega⟩,rfl⟩,
    LessR.of rfl (FrSub.consP rfl (.ofEq rfl) hki (FrSub.consGs rfl rfl hL2i (FrSub.cons rfl (.ofEq rfl) (FrSub.cons rfl (.ofEq rfl) (FrSub.consP rfl (.ofEq rfl) hvi .nil))))) ⟨Q1x hki 1,⟨by simp,Q4d hL2i 1⟩,trivial,trivial,Q1x hvi 1,trivial⟩ zLO rfl rfl hou⟩
  ·have h13:t.op=13:=by simpa using hb
   have g1:allT (FragL true) t:=Q6v hGp t hgk.1.1
   have F:FragL true ⟨t.op,t.n,t.binds,t.kids.map Tr.op,t.alts⟩:=Q2n g1
   have hal:t.alts.length<=1048576:=F.al
   have hsh:=g_sh (G1ok true) g1
   rw[h13]at hsh
   refine zA ?_
   refine ACode.loopR hΓ (α:=Nat) (fun i=>[(40,.one (int i)),(39,.one (int (t.alts.map cAlt).length)),(38,.one (.sl 2 (t.alts.map cAlt))),(7,.one (.box [.box (cTr t),ec,.sl 1 dc,kc'])),(6,.one (.gs 1 lc2 (.l 0))),(0,.one (.ptr (.o 0) 0)),(1,.one (int op)),(2,.one vc)])
    (fun i => ⟨1, [(0, .tok 95 1 lc2.length)], ouX (mC tc0 ec0 vc0 kc m.out m.steps fu fc) m.out.length ou0⟩) (fun n i => (i <= t.alts.length /\ Q2m op 0 t.alts = Q2m op i (t.alts.drop i)) /\ n = t.alts.length - i) (a0 := 0) (ρ := fun q => if q = 0 then 1 else q) ⟨⟨by omega, rfl⟩, rfl⟩
    (LessR.of rfl (FrSub.cons rfl (.ofEq rfl) (FrSub.cons rfl (.ofEq rfl) (FrSub.consP rfl (.ofEq rfl) (by simp) (FrSub.consP rfl (.ofEq rfl) hfi (FrSub.consGs rfl rfl hL2i (FrSub.cons rfl (.ofEq rfl) (FrSub.cons rfl (.ofEq rfl) (FrSub.consP rfl (.ofEq rfl) hvi .nil)))))))) ⟨trivial, trivial, by simp, Q1x hfi 1, ⟨by simp, Q4d hL2i 1⟩, trivial, trivial, Q1x hvi 1, trivial⟩ zLO rfl rfl hou) fun n i hi => ?_
   obtain⟨⟨hil,hcl⟩,rfl⟩:=hi
   refine zA ?_
   refine ACode.cond rfl (fun hb1=>?_) (fun hb1=>?_)
   ·have hlt:i < t.alts.length:=by simpa using hb1
    clear hb1
    obtain⟨a,ha⟩:=Q00 hlt
    have hda:t.alts.drop i=a::t.alts.drop (i+1):=by
     rw[←List.getElem_cons_drop hlt]
     congr 1
     exact (List.getElem?_eq_some_iff.1 ha).2
    have hac:(t.alts.map cAlt)[i]?=some (cAlt a):=by rw[List.getElem?_map,ha];rfl
    refine zA ?_
    refine zS (zIA rfl rfl rfl (by omega) hac) ?_
    refine zM ?_
    refine AOps.splitS rfl rfl rfl rfl (fun hb2=>?_) (fun hb2=>?_)
    ·have htag:a.tag=op:=by simpa using hb2
     refine zM ?_
     refine ACode.cond rfl (fun hb3=>?_) (fun hb3=>?_)
     ·have hi0:0 < i:=by simpa using hb3
      have hcs:Q2m op 0 t.alts=some i:=by rw[hcl,hda,Q2m,if_pos ⟨htag,hi0⟩]
      have hb2:=(hsh.handle.2.2.2 i a ha).2
      rw[if_neg (by omega)]at hb2
      obtain⟨b0,b1,hab⟩:=list2 hb2
      obtain⟨s,hs⟩:=Q00 (l:=t.kids) (i:=1+i) (by rw[hsh.handle.1];omega)
      have hm':m'={ m with c:=.ev s (.bind b1 (.res (L++[.mk t e d])) (.bind b0 v e)),k:=k' }:=by
       unfold Q16 at hpm
       rw[Fm.t_mk,if_pos h13,hcs]at hpm
       simp only[Fm.e_mk,Except.ok.injEq]at hpm
       rw[←hpm,List.getD_eq_getElem?_getD,hs,List.getD_eq_getElem?_getD (l:=t.alts),ha]
       simp[hab]
      have hRv:VR H nm (.res (L++[.mk t e d])) (iB tRes [.sl 1 lc2]):=.res _ _ hL2
      clear hb3 hcl hda hb hil hpm
      refine ACode.wk 6 (y:=.one (.sl 1 lc2)) rfl (.one (.gsE rfl)) ?_
      refine ACode.freeze1 (.l 1) 9 rfl rfl ?_
      refine ACode.lessR hΓ (fr':=[(0,.one (.ptr (.o 0) 0)),(2,.one vc),(6,.one (.sl 1 lc2)),(7,.one (.box [.box (cTr t),ec,.sl 1 dc,kc'])),(8,.one (int i)),(9,.one (.box (cAlt a)))]) (σ':=⟨0,[],ouX (mC tc0 ec0 vc0 kc m.out m.steps fu fc) m.out.length ou0⟩) (ρ:=_root_.id)
       (LessR.of rfl (FrSub.cons rfl (.ofEq rfl) (FrSub.consP rfl (.ofEq rfl) hvi (FrSub.consP rfl (.ofEq rfl) hL2i (FrSub.consP rfl (.ofEq rfl) hfi (FrSub.cons rfl (.ofEq rfl) (FrSub.consP rfl (.ofEq rfl) (by simp [cAlt]) .nil)))))) ⟨trivial, Q1x hvi 0, Q4d hL2i 0, Q1x hfi 0, trivial, by simp [cAlt], trivial⟩ zLO rfl rfl hou) ?_
      have hsc:(Q0y t.kids)[1+i]?=some [.box (cTr s)]:=Q2g hs
      have hb0:(a.binds.map cI)[0]?=some [int b0]:=by rw[hab];rfl
      have hb1:(a.binds.map cI)[1]?=some [int b1]:=by rw[hab];rfl
      have hRi:=hRv.ids
      have hcon:Tryz.prog.concrete tRes=true:=by kernel_rfl
      refine zA ?_
      refine ACode.drawC2 tabOk 43 [23,32,37,38,39,40,41,42] [(11,.one (int (1+(i:Int)))),(12,.one (.box [.box (cTr s)])),(20,.one (.box [int b0])),(26,.one (.box [int b1])),(30,.one (.box [.sl 1 lc2])),(31,.one (iB tRes [.sl 1 lc2]))] (fun vs σ=>match vs with
        |[]=>σ=⟨0,[],ouX (mC tc0 ec0 vc0 kc m.out m.steps fu fc) m.out.length ou0⟩
        |[x]=>∃q ou1 H1,x=.one (.ptr (.o q) 0)/\σ=⟨0,[],ouX (mC tc0 ec0 vc0 kc m.out m.steps fu fc) m.out.length ou1⟩/\Gro (ouX (mC tc0 ec0 vc0 kc m.out m.steps fu fc) m.out.length ou0) H (ouX (mC tc0 ec0 vc0 kc m.out m.steps fu fc) m.out.length ou1) H1/\H1 q=some [int b0,vc,ec]
        |[_,y]=>PfB (mC tc0 ec0 vc0 kc m.out m.steps fu fc) (mC tc0 ec0 vc0 kc m.out m.steps fu fc) m.out.length ou0 H b0 b1 vc ec (iB tRes [.sl 1 lc2]) y σ
        |[_,y,x]=>x=.one (.ptr (.o 0) 0)/\PfB (mC tc0 ec0 vc0 kc m.out m.steps fu fc) (mC tc0 ec0 vc0 kc m.out m.steps fu fc) m.out.length ou0 H b0 b1 vc ec (iB tRes [.sl 1 lc2]) y σ
        |[_,y,x,z]=>x=.one (.ptr (.o 0) 0)/\z=.one (.ptr (.o 0) 0)/\PfB (mC tc0 ec0 vc0 kc m.out m.steps fu fc) (mC tc0 ec0 vc0 kc m.out m.steps fu fc) m.out.length ou0 H b0 b1 vc ec (iB tRes [.sl 1 lc2]) y σ
        |[_,y,x,z,_]=>x=.one (.ptr (.o 0) 0)/\z=.one (.ptr (.o 0) 0)/\PfB (mC tc0 ec0 vc0 kc m.out m.steps fu fc) (mC (.box (cTr s)) ec0 vc0 kc m.out m.steps fu fc) m.out.length ou0 H b0 b1 vc ec (iB tRes [.sl 1 lc2]) y σ
        |[_,y,x,z,_,x1]=>x=.one (.ptr (.o 0) 0)/\z=.one (.ptr (.o 0) 0)/\x1=.one (.ptr (.o 0) 0)/\PfB (mC tc0 ec0 vc0 kc m.out m.steps fu fc) (mC (.box (cTr s)) ec0 vc0 kc m.out m.steps fu fc) m.out.length ou0 H b0 b1 vc ec (iB tRes [.sl 1 lc2]) y σ
        |[_,y,x,z,_,x1,z1]=>x=.one (.ptr (.o 0) 0)/\z=.one (.ptr (.o 0) 0)/\x1=.one (.ptr (.o 0) 0)/\z1=.one (.ptr (.o 0) 1)/\PfB (mC tc0 ec0 vc0 kc m.out m.steps fu fc) (mC (.box (cTr s)) ec0 vc0 kc m.out m.steps fu fc) m.out.length ou0 H b0 b1 vc ec (iB tRes [.sl 1 lc2]) y σ
        |[_,y,x,z,_,x1,z1,_]=>x=.one (.ptr (.o 0) 0)/\z=.one (.ptr (.o 0) 0)/\x1=.one (.ptr (.o 0) 0)/\z1=.one (.ptr (.o 0) 1)/\∃c1,y=.one c1/\PfB (mC tc0 ec0 vc0 kc m.out m.steps fu fc) (mC (.box (cTr s)) c1 vc0 kc m.out m.steps fu fc) m.out.length ou0 H b0 b1 vc ec (iB tRes [.sl 1 lc2]) y σ
        |_=>False) follows (by kernel_rfl) rfl rfl (by decide) (by kernel_rfl) (by kernel_rfl) rfl rfl ?_ ?_ (by decide) ?_ ?_
      ·intro vs σ h
       match vs with
       |[]=>subst h;rfl
       |[_]=>obtain⟨_,_,_,_,rfl,_⟩:=h;rfl
       |[_,_]=>obtain⟨_,_,_,_,_,rfl,_⟩:=h;rfl
       |[_,_,_]=>obtain⟨_,_,_,_,_,_,rfl,_⟩:=h;rfl
       |[_,_,_,_]=>obtain⟨_,_,_,_,_,_,_,rfl,_⟩:=h;rfl
       |[_,_,_,_,_]=>obtain⟨_,_,_,_,_,_,_,rfl,_⟩:=h;rfl
       |[_,_,_,_,_,_]=>obtain⟨_,_,_,_,_,_,_,_,rfl,_⟩:=h;rfl
       |[_,_,_,_,_,_,_]=>obtain⟨_,_,_,_,_,_,_,_,_,rfl,_⟩:=h;rfl
       |[_,_,_,_,_,_,_,_]=>obtain⟨_,_,_,_,_,_,_,_,_,_,_,rfl,_⟩:=h;rfl
       |_::_::_::_::_::_::_::_::_::_=>exact h.elim
      ·intro vs σ h
       exact⟨⟨_,rfl,AStep.arith rfl rfl rfl (.inl ⟨rfl,rfl⟩) zI⟩,⟨_,rfl,zIA rfl rfl rfl (by omega) (by rw[show ((1:Int)+i).toNat=1+i by omega];exact hsc)⟩,⟨_,rfl,zIA rfl rfl rfl (by decide) hb0⟩,⟨_,rfl,zIA rfl rfl rfl (by decide) hb1⟩,⟨_,rfl,AStep.boxI rfl rfl⟩,⟨_,rfl,AStep.mkIfc hcon rfl rfl⟩,trivial⟩
      ·intro vs σ h i' o hi ho
       match vs with
       |[]=>
        subst h;cases hi;cases ho
        refine⟨rfl,.inl (.inr ⟨rfl,Q13.call hΓ rfl rfl rfl rfl ⟨hei,trivial,hvi,trivial⟩ hou (Qfi b0 vc ec hvi hei _) fun r ou' hq hr ho=>?_⟩)⟩
        obtain⟨q,rfl,hN⟩:=hq
        have g1:=Gro.add hw.inO hN
        have e:=Qe1 (n:=m.out.length) (g1.old 0 _ rfl)
        exact⟨q,ou',_,rfl,by rw[←e],by rw[←e];exact g1,by simp[addH]⟩
       |[_]=>
        obtain⟨q,ou1,H1,rfl,rfl,g1,hq1⟩:=h;cases hi;cases ho
        refine⟨rfl,.inl (.inr ⟨rfl,Q13.call hΓ rfl rfl rfl rfl ⟨trivial,trivial,hRi,trivial⟩ g1.ok (Qfi b1 (iB tRes [.sl 1 lc2]) (.ptr (.o q) 0) hRi trivial _) fun r ou' hq hr ho=>?_⟩)⟩
        obtain⟨q2,rfl,hN⟩:=hq
        have g2:=Gro.add g1.inO hN
        have e:=Qe1 (n:=m.out.length) (g2.old 0 _ rfl)
        exact⟨q,q2,ou',_,rfl,by rw[←e],by rw[←e];exact g1.trans g2,g2.h q _ hq1,by simp[addH]⟩
       |[_,_]=>obtain⟨q,q2,ou1,H1,rfl,rfl,g,h1,h2⟩:=h;cases hi;cases ho;exact⟨rfl,.inl (.inl ⟨_,_,AStep.ofOp tabOk rfl,rfl,q,q2,ou1,H1,rfl,rfl,g,h1,h2⟩)⟩
       |[_,_,_]=>obtain⟨rfl,q,q2,ou1,H1,rfl,rfl,g,h1,h2⟩:=h;cases hi;cases ho;exact⟨rfl,.inl (.inl ⟨_,_,AStep.ofOp tabOk rfl,rfl,rfl,q,q2,ou1,H1,rfl,rfl,g,h1,h2⟩)⟩
       |[_,_,_,_]=>obtain⟨rfl,rfl,q,q2,ou1,H1,rfl,rfl,g,h1,h2⟩:=h;cases hi;cases ho;exact⟨rfl,.inl (.inl ⟨.bot,_,AStep.ofStore tabOk rfl,rfl,rfl,q,q2,ou1,H1,rfl,setX _ _ _ _,g,h1,h2⟩)⟩
       |[_,_,_,_,_]=>obtain⟨rfl,rfl,q,q2,ou1,H1,rfl,rfl,g,h1,h2⟩:=h;cases hi;cases ho;exact⟨rfl,.inl (.inl ⟨_,_,AStep.ofOp tabOk rfl,rfl,rfl,rfl,q,q2,ou1,H1,rfl,rfl,g,h1,h2⟩)⟩
       |[_,_,_,_,_,_]=>obtain⟨rfl,rfl,rfl,q,q2,ou1,H1,rfl,rfl,g,h1,h2⟩:=h;cases hi;cases ho;exact⟨rfl,.inl (.inl ⟨_,_,AStep.ofOp tabOk rfl,rfl,rfl,rfl,rfl,q,q2,ou1,H1,rfl,rfl,g,h1,h2⟩)⟩
       |[_,_,_,_,_,_,_]=>obtain⟨rfl,rfl,rfl,rfl,q,q2,ou1,H1,rfl,rfl,g,h1,h2⟩:=h;cases hi;cases ho;exact⟨rfl,.inl (.inl ⟨.bot,_,AStep.ofStore tabOk rfl,rfl,rfl,rfl,rfl,_,rfl,q,q2,ou1,H1,rfl,setX _ _ _ _,g,h1,h2⟩)⟩
       |_::_::_::_::_::_::_::_::_=>cases hi
      ·intro vs σ hl h
       match vs with
       |[_,_,_,_,_,_,_,_]=>
        obtain⟨rfl,rfl,rfl,rfl,c1,rfl,q,q2,ou1,H1,hy,rfl,g,h1,h2⟩:=h
        cases hy
        refine zA ?_
        have hw2:=hw.gro g (by simp[ouX]) trivial
        have hM:MR fu fc _ H1 nm { m with c:=.ev s (.bind b1 (.res (L++[.mk t e d])) (.bind b0 v e)),k:=k' }:=MR.ofEv (ou':=(St.set ⟨0,[],ouX (mC (.box (cTr s)) (.ptr (.o q2) 0) vc0 kc m.out m.steps fu fc) m.out.length ou1⟩ (.o 0) (.cells (mC (.box (cTr s)) (.ptr (.o q2) 0) vc0 kc' m.out m.steps fu fc))).ou) hw2
         (.bind b1 _ _ q2 _ _ h2 (hRv.mo (g.mo nm)) (.bind b0 v e q vc ec h1 (hv.mo (g.mo nm)) (he.mo (g.mo nm)))) (hk'.mo (g.mo nm)) h0.ids.2.2.1 hfc rfl rfl (fun _=>rfl)
        exact AFn.fin' rfl (WkF.refl _) (by simp) hM.ok ⟨rfl,H1,nm,_,by rw[hm'],g.mo nm,hM⟩
       |[]|[_]|[_,_]|[_,_,_]|[_,_,_,_]|[_,_,_,_,_]|[_,_,_,_,_,_]|[_,_,_,_,_,_,_]=>cases hl
       |_::_::_::_::_::_::_::_::_::_=>exact h.elim
     ·have hi0:¬0 < i:=by simpa using hb3
      refine zM ?_
      exact cInv ⟨t.alts.length - (i+1),i+1,_root_.id,by omega,⟨⟨by omega,by rw[hcl,hda,Q2m,if_neg fun h=>hi0 h.2]⟩,rfl⟩,
       LessR.of rfl (FrSub.cons rfl (.ofEq rfl) (FrSub.cons rfl (.ofEq rfl) (FrSub.consP rfl (.ofEq rfl) (by simp) (FrSub.consP rfl (.ofEq rfl) hfi (FrSub.consGs rfl rfl hL2i (FrSub.cons rfl (.ofEq rfl) (FrSub.cons rfl (.ofEq rfl) (FrSub.consP rfl (.ofEq rfl) hvi .nil)))))))) ⟨trivial,trivial,by simp,Q1x hfi 1,⟨by simp,Q4d hL2i 1⟩,trivial,trivial,Q1x hvi 1,trivial⟩ zLO rfl rfl hou⟩
    ·have htag:¬a.tag=op:=by simpa using hb2
     refine zM ?_
     exact cInv ⟨t.alts.length - (i+1),i+1,_root_.id,by omega,⟨⟨by omega,by rw[hcl,hda,Q2m,if_neg fun h=>htag h.1]⟩,rfl⟩,
      LessR.of rfl (FrSub.cons rfl (.ofEq rfl) (FrSub.cons rfl (.ofEq rfl) (FrSub.consP rfl (.ofEq rfl) (by simp) (FrSub.consP rfl (.ofEq rfl) hfi (FrSub.consGs rfl rfl hL2i (FrSub.cons rfl (.ofEq rfl) (FrSub.cons rfl (.ofEq rfl) (FrSub.consP rfl (.ofEq rfl) hvi .nil)))))))) ⟨trivial,trivial,by simp,Q1x hfi 1,⟨by simp,Q4d hL2i 1⟩,trivial,trivial,Q1x hvi 1,trivial⟩ zLO rfl rfl hou⟩
   ·have hil2:i=t.alts.length:=by
     have:¬i < t.alts.length:=by simpa using hb1
     omega
    have hcn:Q2m op 0 t.alts=none:=by rw[hcl,hil2,List.drop_length];rfl
    have hpn:Q16 m op v (L++[.mk t e d]) k'=.ok m':=by
     unfold Q16 at hpm
     rw[Fm.t_mk,if_pos h13,hcn]at hpm
     exact hpm
    refine zM ?_
    exact cInv ⟨k'.length,(k',kc',L++[.mk t e d],lc2),_root_.id,by simp,⟨⟨hk',hL2,hpn,hgk.2,by simp only[List.length_cons]at hlen;dsimp only;omega⟩,rfl⟩,
     LessR.of rfl (FrSub.consP rfl (.ofEq rfl) hki (FrSub.consGs rfl rfl hL2i (FrSub.cons rfl (.ofEq rfl) (FrSub.cons rfl (.ofEq rfl) (FrSub.consP rfl (.ofEq rfl) hvi .nil))))) ⟨Q1x hki 1,⟨by simp,Q4d hL2i 1⟩,trivial,trivial,Q1x hvi 1,trivial⟩ zLO rfl rfl hou⟩
end
section
variable {fu:Int}{fc:FcT}{ou:Outer}{H:Hm}{nm:Nm2}{m m':Ms}{tc0 ec0 vc0 kc0:AC}{t:Tr}{e:En}{k:List Fm}{ec kc:AC}{v:Vl}{vc:AC}
theorem Qg2(hΓ:∀g cs,(g,cs)∈Γ->idsL isO cs)(h0:M0 fu fc ou H nm m tc0 ec0 vc0 kc0)(hfc:fc.ids isO)(he:ER H nm e ec)(hv:VR H nm v vc)(hk:KR H nm k kc)(hkl:k.length<=1048576){G:GP}(hGp:∀l,G.p l->FragL true l)(hg:gFs G k)(h12:t.op=12)(hx:Q16 m t.n v [] k=.ok m'):
  AFn Tryz.prog Γ 111 [.one (.ptr (.o 0) 0),.one (.box [.box (cTr t),ec,.sl 1 [[vc]],kc])] ou (StQ fu fc H nm (.ok m')):=by
 have hN:=Qfz h0 hk hfc
 have hei:=he.ids
 have hvi:=hv.ids
 have hki:=hk.ids
 have hop:opdN t=1:=by unfold opdN;rw[if_pos (.inr (.inr (.inr h12)))]
 have hoX:=h0.ouX
 rw[hoX]
 generalize hmc:ou=ou0 at hN
 clear hoX
 have d4:¬t.op=4:=by omega
 have d7:¬t.op=7:=by omega
 have d3:¬t.op=3:=by omega
 have d13:¬t.op=13:=by omega
 refine AFn.walk 262 tabOk Tryz.func111 rfl (by kernel_rfl) rfl rfl fun hou=>?_
 refine zA ?_
 refine ACode.drawX tabOk 10 [(9,.one (int (opdN t)))] follows (by kernel_rfl) rfl rfl rfl rfl ?_ ?_
 ·exact⟨⟨_,rfl,AStep.callPure hΓ rfl rfl rfl (by simp[idsF]) hou (Q96 t)⟩,trivial⟩
 refine zA ?_
 refine ACode.cond rfl (fun hb=>absurd hb (by simp[hop])) (fun hb=>?_)
 refine zA ?_
 refine ACode.stEq (σ':=⟨0,[],ouX (mC tc0 ec0 vc0 kc m.out m.steps fu fc) m.out.length ou0⟩) (setX _ _ _ _) ?_
 refine ACode.cond rfl (fun hb=>absurd hb (by simp[d4])) (fun _=>?_)
 refine zA ?_
 refine ACode.cond rfl (fun hb=>absurd hb (by simp[d7])) (fun _=>?_)
 refine zA ?_
 refine ACode.cond rfl (fun hb=>absurd hb (by simp[d3])) (fun _=>?_)
 refine zA ?_
 refine ACode.cond rfl (fun hb=>absurd hb (by simp[d13])) (fun _=>?_)
 refine zA ?_
 refine ACode.cond rfl (fun _=>?_) (fun hb=>absurd hb (by simp[h12]))
 refine ACode.drawX tabOk 14 [(12,.one (.box [vc]))] follows (by kernel_rfl) rfl rfl rfl rfl ?_ ?_
 ·exact⟨⟨_,rfl,zIA rfl rfl rfl (by decide) rfl⟩,trivial⟩
 refine zA ?_
 refine AOps.call1 hΓ rfl rfl rfl rfl rfl rfl rfl ⟨trivial,trivial,hvi,trivial⟩ hN.w.ok (Qjd hΓ hN hfc hk hv hkl hGp hg hx) fun r ou' hq _ how=>?_
 obtain⟨rfl,H',nm',m2,hx2,hmo,hM⟩:=hq
 refine zA ?_
 exact StQ.fin rfl hx2 hmo hM
end
theorem kid_hi(hΓ:∀g cs,(g,cs)∈Γ->idsL isO cs){fu:Int}{ac:AC}(hac:ac.ids isO)(ou:Outer)(H:Hm)(nm:Nm2)(m m':Ms)(t:Tr)(e:En)(d:List Vl)(k:List Fm)(ec kc tc0 ec0 vc0 kc0:AC)(dc:List (List AC))(kt:Nat)(h0:M0 fu ⟨ac,kt⟩ ou H nm m tc0 ec0 vc0 kc0)(he:ER H nm e ec)(hd:VsR H nm d dc)(hk:KR H nm k kc)
  (ht : allT (FragL true) t) {G : GP} (hGp : ∀ l, G.p l -> FragL true l) (hg : gFs G k) (hkl : k.length <= 1048576) (hl : d.length = 1) (ho : t.op = 12 ∨ t.op = 13) (hx : kidM fu [] m (.mk t e d) k = .ok m') : AFn Tryz.prog Γ 111 [.one (.ptr (.o 0) 0), .one (.box [.box (cTr t), ec, .sl 1 dc, kc])] ou (StQ fu ⟨ac, kt⟩ H nm (.ok m')) := by
 have hfc:(FcT.mk ac kt).ids isO:=hac
 have hsh:=g_sh (G1ok true) ht
 obtain⟨v,rfl⟩:=list1 hl
 rcases ho with h12|h13
 ·have hop:opdN t=1:=by unfold opdN;rw[if_pos (.inr (.inr (.inr h12)))]
  have hp:Q16 m t.n v [] k=.ok m':=by
   unfold kidM at hx
   rw[if_neg (show ¬(Fm.mk t e [v]).done.length < opdN (Fm.mk t e [v]).t by simp[hop]),if_neg (show ¬(Fm.mk t e [v]).t.op=4 by simp[h12]),if_neg (show ¬(Fm.mk t e [v]).t.op=7 by simp[h12]),if_neg (show ¬(Fm.mk t e [v]).t.op=3 by simp[h12]),if_neg (show ¬(Fm.mk t e [v]).t.op=13 by simp[h12]),if_pos (show (Fm.mk t e [v]).t.op=12 from h12)]at hx
   exact hx
  obtain⟨c0,dcs,rfl,hv0,hds⟩:=hd.consE
  cases hds
  exact Qg2 hΓ h0 hfc he hv0 hk hkl hGp hg h12 hp
 ·rw[h13]at hsh
  have hh:=hsh.handle
  obtain⟨s,hs⟩:=Q00 (l:=t.kids) (i:=1) (by omega)
  obtain⟨a,ha⟩:=Q00 (l:=t.alts) (i:=0) (by omega)
  have hb:=(hh.2.2.2 0 a ha).2
  rw[if_pos rfl]at hb
  obtain⟨id,hab⟩:=list1 hb
  have:=AFnP.okStep (Qjp (fns:=[]) hΓ h0 hfc he hd hk (v:=v) rfl h13 hs ha hab) hx
  rwa [hx]at this
end Go.Proofs.YtpaonemmbhbgoaaGreatDoor
namespace Go.Proofs.YtpaonemmbhbgoaaGreatDoor
open Go Go.RowKit
attribute [local go_sem] Oper.semAt_some
def uptoL {α:Type}(f:Nat->α)(k:Nat):List α:=(List.range k).map f
theorem Q73{α:Type}(f:Nat->α)(k:Nat):uptoL f (k+1)=uptoL f k++[f k]:=by simp[uptoL,List.range_succ]
theorem Q4v{α:Type}(f:Nat->α)(k:Nat):(uptoL f k).length=k:=by simp[uptoL]
set_option maxRecDepth 100000 in
set_option maxHeartbeats 2000000 in
theorem Qfa(F:Fence)(n:Nat)(h7:F.fn 184)(hro:F.round=none)(l Bs ob b off len cap:Nat)(zs:List Value)(hreach:len * 8<=140737488351232)(Kp:World->World->Prop)(hKr:∀A,Kp A A)(hKt:∀A B C,Kp A B->Kp B C->Kp A C)
  (hKb : ∀ A B, Kp A B -> B.cell? ⟨Bs, ob, none⟩ = A.cell? ⟨Bs, ob, none⟩) (hKe : ∀ A B j, Kp A B -> j < len -> B.cell? ⟨b, off + j, none⟩ = A.cell? ⟨b, off + j, none⟩) (J Jx : List (Int × Value) -> World -> Prop)
  (hY : ∀ pre x W, J pre W -> pre.length < len -> x = (((len - 1 - pre.length : Nat) : Int), zs.getD (len - 1 - pre.length) undef) -> YieldAt F (n - 1) Tryz.prog l #[.int .i64 x.1, x.2] W fun e W' =>
   (e=.returned (.bool true)/\J (pre++[x]) W'/\Kp W W')∨(e=.returned (.bool false)/\Jx (pre++[x]) W'))
  (W : World) (hBs : W.cell? ⟨Bs, ob, none⟩ = some (.slice (some ⟨b, off, none⟩) len cap)) (hc : ∀ j, j < len -> W.cell? ⟨b, off + j, none⟩ = some (zs.getD j undef)) (h0 : J [] W) (hn : 1 <= n) :
  CallsIn F n Tryz.prog 184 #[.func (.yield l) #[] #[],.pointer (some ⟨Bs,ob,none⟩)] W fun e W'=>(∃v,e=.returned v)/\
   ((∃ys,ys=uptoL (fun j=>(((len - 1 - j:Nat):Int),zs.getD (len - 1 - j) undef)) len/\J ys W')∨(∃pre,True/\Jx pre W')):=by
 refine callsIn_of_wp Tryz.func184 rfl h7 ?_ hro
 simp only[Tryz.ntmps184,List.size_toArray,List.length_cons,List.length_nil,Nat.reduceAdd,Nat.reduceSub,Array.replicate_succ,Array.replicate_zero,List.push_toArray,List.append_toArray,List.nil_append,List.cons_append]
 gi_wp2
 gi_loopw [3] (fun i wr=>∃k:Nat,k<=len/\i=.int .i64 ((len:Int) - 1 - k)/\J (uptoL (fun j=>(((len - 1 - j:Nat):Int),zs.getD (len - 1 - j) undef)) k) wr/\Kp W wr)
  (fun i _ => (intOf i + 1).toNat)
 case atStart=>exact⟨0,Nat.zero_le _,by simp,h0,hKr _⟩
 case round=>
  obtain⟨k,hk,rfl,hJs,hnx⟩:=hrel
  by_cases hlt:k < len
  ·have hex:∃m,m+k+1<=len/\len<=m+k+1:=⟨len - 1 - k,by omega,by omega⟩
   obtain⟨m,hm1,hm2⟩:=hex
   have e1:((len:Int) - 1 - k)=(m:Int):=by omega
   have hml:m < len:=by omega
   have hcx:wr.cell? ⟨b,off+m,none⟩=some (zs.getD m undef):=(hKe W wr m hnx hml).trans (hc m hml)
   have hbx:wr.cell? ⟨Bs,ob,none⟩=some (.slice (some ⟨b,off,none⟩) len cap):=(hKb W wr hnx).trans hBs
   obtain⟨fn,tmps,assign,body,hy,hR⟩:=hY _ ((m:Int),zs.getD m undef) wr hJs (by rw[Q4v];exact hlt) (by rw[Q4v,show len - 1 - k=m by omega])
   simp only[List.getD_eq_getElem?_getD]at hy hcx
   rw[e1]
   gi_wp2
   refine hR.mono ?_
   rintro e W3 (⟨rfl,hJ3,hk3⟩|⟨rfl,hJx3⟩)
   ·gi_wp2
    go_roundw
    case rel=>exact⟨k+1,by omega,by first|(simp;done)|(simp;omega),by rw[Q73,show len - 1 - k=m by omega];exact hJ3,hKt _ _ _ hnx hk3⟩
    case measure=>simp[intOf]
   ·gi_wp2
    refine bodyPost_ret (results_none rfl _ _ _) rfl ?_
    exact⟨⟨_,rfl⟩,.inr ⟨_,trivial,hJx3⟩⟩
  ·obtain rfl:k=len:=by omega
   have e1:((k:Int) - 1 - k)=-1:=by omega
   rw[e1]
   gi_wp2
   go_end0
   exact⟨⟨_,rfl⟩,.inl ⟨_,rfl,hJs⟩⟩
end Go.Proofs.YtpaonemmbhbgoaaGreatDoor
namespace Go.Proofs.YtpaonemmbhbgoaaGreatDoor
open Go Go.RowKit
attribute [local go_sem] Oper.semAt_some
set_option maxRecDepth 100000 in
set_option maxHeartbeats 2000000 in
theorem Qfb(F:Fence)(n:Nat)(h7:F.fn 184)(hro:F.round=none)(l Bs ob:Nat){α:Type}(a:Option Addr)(cap:Nat)(J:List α->World->Prop)
  (W:World) (hBs:W.cell? ⟨Bs,ob,none⟩=some (.slice a 0 cap)) (h0:J [] W):
  CallsIn F n Tryz.prog 184 #[.func (.yield l) #[] #[],.pointer (some ⟨Bs,ob,none⟩)] W fun e W'=>(∃v,e=.returned v)/\J [] W':=by
 refine callsIn_of_wp Tryz.func184 rfl h7 ?_ hro
 simp only[Tryz.ntmps184,List.size_toArray,List.length_cons,List.length_nil,Nat.reduceAdd,Nat.reduceSub,Array.replicate_succ,Array.replicate_zero,List.push_toArray,List.append_toArray,List.nil_append,List.cons_append]
 gi_wp2
 gi_loopw [3] (fun i wr=>i=.int .i64 (-1)/\J [] wr)
  (fun i _=>(intOf i+1).toNat)
 case atStart=>exact⟨by simp,h0⟩
 case round=>
  obtain⟨rfl,hJs⟩:=hrel
  gi_wp2
  go_end0
  exact⟨⟨_,rfl⟩,hJs⟩
end Go.Proofs.YtpaonemmbhbgoaaGreatDoor
namespace Go.Proofs.YtpaonemmbhbgoaaGreatDoor
open Go Go.RowKit Go.Abs
abbrev encX (x:Int×Value):Array Value:=#[.int .i64 x.1,x.2]
abbrev encF (zs:List Value){len:Nat}(j:Fin len):Array Value:=encX (((j.val:Nat):Int),zs.getD j.val undef)
theorem Qf8{C:Ctx}{w:World}{Bs ob b off len cap:Nat}{zs:List Value}(hreach:len * 8<=140737488351232)(hpB:C.prot ⟨Bs,ob,none⟩)(hpe:∀j,j < len->C.prot ⟨b,off+j,none⟩)(hlt:∀a,C.prot a->a.block < w.heap.size)
  (hBs:w.cell? ⟨Bs,ob,none⟩=some (.slice (some ⟨b,off,none⟩) len cap)) (hc:∀j,j < len->w.cell? ⟨b,off+j,none⟩=some (zs.getD j undef)):
  SeqStopsK Fence.wide 1 Tryz.prog 184 #[.pointer (some ⟨Bs,ob,none⟩)] (encF zs (len:=len)) (KpC C) (fun ys=>ys.map Fin.val=uptoL (fun j=>len - 1 - j) len) (fun _=>True) len w:=by
 intro l J Jx W hb hJ hJx hY h0
 let f:Fin len->Int×Value:=fun j=>(((j.val:Nat):Int),zs.getD j.val undef)
 refine (Qfa Fence.wide 1 trivial rfl l Bs ob b off len cap zs hreach (KpC C) (fun A=>⟨KeepsWalks.refl A,fun _ _=>rfl⟩) (fun A B D h k=>⟨h.1.trans k.1,fun a ha=>(k.2 a ha).trans (h.2 a ha)⟩) (fun A B h=>h.2 _ hpB) (fun A B j h hj=>h.2 _ (hpe j hj))
  (fun ys W1 => ∃ pre : List (Fin len), ys = pre.map f /\ pre.map Fin.val = uptoL (fun j => len - 1 - j) pre.length /\ J pre W1) (fun ys W1 => ∃ pre : List (Fin len), Jx pre W1) (fun pre x W1 h1 h2 h3 => ?_) W
  ((hb.cell (p := ⟨Bs, ob, none⟩) (hlt _ hpB)).trans hBs) (fun j hj => (hb.cell (p := ⟨b, off + j, none⟩) (hlt _ (hpe j hj))).trans (hc j hj)) ⟨[], rfl, rfl, h0⟩ (Nat.le_refl 1)).mono ?_
 ·obtain⟨pre',rfl,h5,h4⟩:=h1
  simp only[List.length_map]at h2 h3
  have hj:len - 1 - pre'.length < len:=by omega
  have hx:x=f ⟨len - 1 - pre'.length,hj⟩:=h3
  subst hx
  obtain⟨fn,tmps,assign,body,hy,hR⟩:=hY pre' ⟨len - 1 - pre'.length,hj⟩ W1 h4 h2
  refine⟨fn,tmps,assign,body,hy,hR.mono ?_⟩
  rintro e W' (⟨g1,g2,g3⟩|⟨g1,g2⟩)
  ·refine .inl ⟨g1,⟨pre'++[⟨len - 1 - pre'.length,hj⟩],by rw[List.map_append];rfl,?_,g2⟩,g3⟩
   rw[List.length_append,List.length_singleton,Q73,List.map_append,h5]
   rfl
  ·exact .inr ⟨g1,_,g2⟩
 ·rintro e W' ⟨h1,h2|h2⟩
  ·obtain⟨ys,rfl,pre,h3,h4,h5⟩:=h2
   refine⟨h1,.inl ⟨pre,?_,h5⟩⟩
   have:=congrArg List.length h3
   rw[Q4v,List.length_map]at this
   show pre.map Fin.val=_
   rw[h4,←this]
  ·obtain⟨ys,_,pre,h3⟩:=h2
   exact⟨h1,.inr ⟨pre,trivial,h3⟩⟩
theorem Qd1{C:Ctx}{w:World}{Bs ob cap:Nat}{a:Option Addr}{zs:List Value}(hpB:C.prot ⟨Bs,ob,none⟩)(hlt:∀a,C.prot a->a.block < w.heap.size)(hBs:w.cell? ⟨Bs,ob,none⟩=some (.slice a 0 cap)):
  SeqStopsK Fence.wide 1 Tryz.prog 184 #[.pointer (some ⟨Bs,ob,none⟩)] (encF zs (len:=0)) (KpC C) (fun ys=>ys.map Fin.val=uptoL (fun j=>0 - 1 - j) 0) (fun _=>True) 0 w:=by
 intro l J Jx W hb hJ hJx hY h0
 refine (Qfb Fence.wide 1 trivial rfl l Bs ob a cap J W ((hb.cell (p:=⟨Bs,ob,none⟩) (hlt _ hpB)).trans hBs) h0).mono fun e W' h=>⟨h.1,.inl ⟨[],rfl,h.2⟩⟩
theorem Qf9{C:Ctx}{w:World}{Bs ob len cap:Nat}{a:Option Addr}{zs:List Value}(hreach:len * 8<=140737488351232)(hpB:C.prot ⟨Bs,ob,none⟩)(hlt:∀a,C.prot a->a.block < w.heap.size)
  (hBs:w.cell? ⟨Bs,ob,none⟩=some (.slice a len cap)) (h:len=0∨∃b off,a=some ⟨b,off,none⟩/\(∀j,j < len->C.prot ⟨b,off+j,none⟩)/\∀j,j < len->w.cell? ⟨b,off+j,none⟩=some (zs.getD j undef)):
  SeqStopsK Fence.wide 1 Tryz.prog 184 #[.pointer (some ⟨Bs,ob,none⟩)] (encF zs (len:=len)) (KpC C) (fun ys=>ys.map Fin.val=uptoL (fun j=>len - 1 - j) len) (fun _=>True) len w:=by
 rcases h with rfl|⟨b,off,rfl,hp,hc⟩
 ·exact Qd1 hpB hlt hBs
 ·exact Qf8 hreach hpB hp hlt hBs hc
end Go.Proofs.YtpaonemmbhbgoaaGreatDoor
namespace Go.Proofs.YtpaonemmbhbgoaaGreatDoor
open Go Go.Abs Go.CoreX
variable {Γ:List (Nat×List AC)}
theorem Qgv(c:AC)(hc:c.ids isO):APure Tryz.prog Γ 169 [.one c] (.one (.fn (.func 184) [] [.box [c]])):=by
 intro ou
 refine AFn.walk 4 tabOk Tryz.func169 rfl (by kernel_rfl) rfl rfl fun hou=>?_
 iterate 3 (first|((with_reducible refine oj ?_);refine zau ?_)|(with_reducible refine zst ?_)|((with_reducible refine Q0k ?_ ?_);rfl)|(with_reducible refine ok ?_;first|refine ACode.condT rfl ?_|refine ACode.condF rfl ?_))
 refine AOps.freeze1 (.l 0) 1 rfl rfl ?_
 refine zA ?_
 exact APure.fin rfl (WkF.ofEq rfl) (by simp[hc]) hou rfl
section
variable {fu:Int}{ac:AC}
theorem FsR.get{H:Hm}{nm:Nm2}:∀{fs:List Fm}{l:List (List AC)}{i:Nat}{f:Fm},FsR H nm fs l->fs[i]?=some f->∃c,l[i]?=some [c]/\FR H nm f c
 |_,_,_,_,.nil,h=>by cases h
 |_,_,0,_,.cons f c fs cs hf h,hi=>by cases hi;exact⟨c,rfl,hf⟩
 |_,_,i+1,_,.cons f c fs cs hf h,hi=>by simpa using FsR.get h (by simpa using hi)
theorem FsR.len{H:Hm}{nm:Nm2}:∀{fs:List Fm}{l:List (List AC)},FsR H nm fs l->l.length=fs.length
 |_,_,.nil=>rfl
 |_,_,.cons f c fs cs hf h=>by simp[FsR.len h]
def pushF (fs k:List Fm)(pre:List Nat):List Fm:=pre.foldl (fun kk j=>fs.getD j default::kk) k
theorem Qas(fs k:List Fm)(pre:List Nat)(j:Nat):pushF fs k (pre++[j])=fs.getD j default::pushF fs k pre:=by simp[pushF]
theorem Qar(fs k:List Fm):∀n,n<=fs.length->pushF fs k (uptoL (fun j=>fs.length - 1 - j) n)=fs.drop (fs.length - n)++k
 |0,_=>by simp[pushF,uptoL]
 |n+1,h=>by
  rw[Q73,Qas,Qar fs k n (by omega)]
  have h1:fs.length - (n+1) < fs.length:=by omega
  rw[show fs.length - 1 - n=fs.length - (n+1) by omega,List.drop_eq_getElem_cons h1,List.getD_eq_getElem?_getD,List.getElem?_eq_getElem h1]
  simp only[Option.getD_some,List.cons_append]
  rw[show fs.length - (n+1)+1=fs.length - n by omega]
theorem Qoc(hΓ:∀g cs,(g,cs)∈Γ->idsL isO cs)(hac:ac.ids isO)(ou:Outer)(H:Hm)(nm:Nm2)(m:Ms)(k fs:List Fm)(kc tc0 ec0 vc0:AC)(kt:Nat)(vc:AC)(a:Vl)(c:AC)(h0:M0 fu ⟨ac,kt⟩ ou H nm m tc0 ec0 vc0 kc)(hk:KR H nm k kc)(hv:VR H nm (.res fs) vc)(ha:VR H nm a c)(hfl:(fs++k).length<=1048576):
  AFn Tryz.prog Γ 138 [.one (.ptr (.o 0) 0),.one vc,.one (.sl 1 [[c]])] ou (StQ fu ⟨ac,kt⟩ H nm (.ok { m with c:=.rt a,k:=fs++k })):=by
 have hfc:(FcT.mk ac kt).ids isO:=hac
 have hoX:=h0.ouX
 have hai:=ha.ids
 have hki:=hk.ids
 rw[hoX]
 have hw:=h0.w
 rw[hoX]at hw
 generalize hmc:ou=ou0 at hw
 clear hoX
 obtain⟨l,rfl,hf⟩:∃l,vc=iB tRes [.sl 1 l]/\FsR H nm fs l:=by
  rcases hv.isRes with ⟨fs',l,e,rfl,hf⟩|⟨hno,_⟩
  ·cases e;exact⟨l,rfl,hf⟩
  ·exact absurd rfl (hno fs)
 have hli:=hf.ids
 have n1:notT tClo (iB tRes [.sl 1 l]):=.inr ⟨_,_,_,rfl,rfl⟩
 have n2:notT tCap (iB tRes [.sl 1 l]):=.inr ⟨_,_,_,rfl,rfl⟩
 refine AFn.walkM 137 tabOk Tryz.func138 rfl (by kernel_rfl) rfl rfl fun hou F w C hnl hi=>?_
 refine XCode.seq ?_
 iterate 2 (first|((with_reducible refine oj ?_);refine zau ?_)|(with_reducible refine zst ?_)|((with_reducible refine Q0k ?_ ?_);rfl)|(with_reducible refine ok ?_;first|refine ACode.condT rfl ?_|refine ACode.condF rfl ?_))
 refine AOps.freeze1 (.l 0) 3 rfl rfl ?_
 refine zA ?_
 refine cInv ?_
 refine XCode.seqR ?_
 refine XCode.seq ?_
 refine zA ?_
 refine cInv ?_
 refine XCode.block ?_
 refine XCode.seq ?_
 refine ACode.region ?_
 refine zS (AStep.assertNo concClo rfl zClo rfl rfl n1) ?_
 refine zA ?_
 refine cInv ?_
 refine XCode.condF rfl ?_
 refine XCode.seq ?_
 refine ACode.region ?_
 refine zS (AStep.assertNo concCap rfl zCap rfl rfl n2) ?_
 refine zA ?_
 refine cInv ?_
 refine XCode.condF rfl ?_
 refine XCode.seq ?_
 refine ACode.region ?_
 refine zS (AStep.assertYes concRes rfl rfl) ?_
 refine zA ?_
 refine cInv ?_
 refine XCode.condT rfl ?_
 refine XCode.seq ?_
 refine zA ?_
 refine cInv ?_
 refine XCode.seq ?_
 refine zA ?_
 refine cInv ?_
 refine XCode.condT rfl ?_
 refine XCode.seqR ?_
 refine XCode.seq ?_
 refine zA ?_
 refine AOps.callC hΓ (Qgv (.sl 1 l) hli) rfl rfl rfl rfl rfl rfl rfl hou (by simp[hli]) ?_
 refine zA ?_
 refine cInv ?_
 have hfv:(FV.one (.fn (.func 184) [] [.box [.sl 1 l]])).ids isO:=by simp[hli]
 have hcv:(FV.one (.sl 1 [[c]])).ids isO:=by simp[hai]
 refine XCode.lessR hΓ (fr':=[(102,.one (.fn (.func 184) [] [.box [.sl 1 l]])),(3,.one (.box [.ptr (.o 0) 0])),(2,.one (.sl 1 [[c]]))]) (σ':=⟨0,[],ouX (mC tc0 ec0 vc0 kc m.out m.steps fu ⟨ac,kt⟩) m.out.length ou0⟩) (ρ:=_root_.id) (LessR.of rfl zFW (by simp[hli,hai,Q4d hli,Q1x hai]) zLO rfl rfl hou) ?_
 refine XCode.block ?_
 have hwi:=fun kc' (hkr:KR H nm (pushF fs k []) kc')=>hkr.ids
 have hll:=hf.len
 intro w1 C1 tmps hg hi1 hf1
 obtain⟨u,hu,hr⟩:=hf1.2 102 _ rfl
 obtain⟨Bs,ob,ad,cap,rfl,hpB,hcB,zs,hz⟩:=hr.boxSl
 have hseq:SeqStopsK Fence.wide 1 Tryz.prog 184 #[.pointer (some ⟨Bs,ob,none⟩)] (encF zs (len:=l.length)) (KpC C1) (fun ys=>ys.map Fin.val=uptoL (fun j=>l.length - 1 - j) l.length) (fun _=>True) l.length w1:=by
  refine Qf9 (by simp at hfl;omega) hpB hi1.prot hcB ?_
  rcases hz with hz|⟨b,off,rfl,hz⟩
  ·exact .inl hz
  ·refine .inr ⟨b,off,rfl,fun j hj=>?_,fun j hj=>?_⟩
   ·obtain⟨f,hfj⟩:=Q00 (l:=fs) (i:=j) (by omega)
    obtain⟨cj,hcj,_⟩:=hf.get hfj
    exact (hz j cj hcj).2.1
   ·obtain⟨f,hfj⟩:=Q00 (l:=fs) (i:=j) (by omega)
    obtain⟨cj,hcj,_⟩:=hf.get hfj
    exact (hz j cj hcj).1
 let J:List (Fin l.length)->St->Prop:=fun pre σ=>∃kc',KR H nm (pushF fs k (pre.map Fin.val)) kc'/\σ=⟨0,[],ouX (mC tc0 ec0 vc0 kc' m.out m.steps fu ⟨ac,kt⟩) m.out.length ou0⟩
 have hPl:∀mc',Q3u ⟨0,[],ouX mc' m.out.length ou0⟩:=by
  intro mc' i o hio
  have hpo:Ql3 o:=by
   cases i with
   |l k=>cases hio
   |o k=>
    cases k with
    |zero=>cases hio;trivial
    |succ k=>exact hw.pl (k+1) o hio
  cases o <;> first|trivial|exact hpo
 have hJp:∀pre σ,J pre σ->Q3u σ:=by
  rintro pre σ ⟨kc',_,rfl⟩
  exact hPl _
 refine Qni (E:=⟨Tryz.prog,tab,Γ,137,[]⟩) (α:=Fin l.length) J (fun x=>((tmps.setIfInBounds 103 (.int .i64 ((x.val:Nat):Int))).setIfInBounds 104 (zs.getD x.val undef)).setIfInBounds 11 (zs.getD x.val undef)) hg hi1 hf1 hJp ⟨kc,hk,rfl⟩ ?_ (by simp[Act.eval,hu]) ?_ hseq (fun x=>rfl) ?_ ?_ ?_
 ·intro j x hx
  have:∀(fr:Fr),(∀p∈fr,p.2.ids isO)->∀j x,Fr.get j fr=some x->x.ids isO:=by
   intro fr
   induction fr with
   |nil=>intro _ j x h;cases h
   |cons p fr ih=>
    intro hp j x h
    obtain⟨j',y⟩:=p
    simp only[Fr.get]at h
    cases hb:Nat.beq j' j with
    |true=>rw[hb]at h;cases h;exact hp _ (List.mem_cons_self ..)
    |false=>rw[hb]at h;exact ih (fun q hq=>hp q (List.mem_cons_of_mem _ hq)) j x h
  refine this _ (fun p hp=>?_) j x hx
  rcases List.mem_cons.1 hp with rfl|hp
  ·exact hfv
  rcases List.mem_cons.1 hp with rfl|hp
  ·simp
  rcases List.mem_cons.1 hp with rfl|hp
  ·exact hcv
  ·cases hp
 ·intro args w'
  exact Qo9 Tryz.func184 rfl (by kernel_rfl) args w'
 ·intro l' x W K hK
  have e0:((#[103,104]:Array Tmp).zip (encF zs x)).foldl (fun t (p,v)=>t.setIfInBounds p v) tmps=(tmps.setIfInBounds 103 (.int .i64 ((x.val:Nat):Int))).setIfInBounds 104 (zs.getD x.val undef):=by simp[encF,encX]
  rw[e0]
  refine wpIn_assign rfl rfl rfl ?_
  have h104:104 < (tmps.setIfInBounds 103 (.int .i64 ((x.val:Nat):Int))).size:=by simp[hf1.1]
  have e:Act.eval ⟨(tmps.setIfInBounds 103 (.int .i64 ((x.val:Nat):Int))).setIfInBounds 104 (zs.getD x.val undef),[]⟩ (.tmp 104)=zs.getD x.val undef:=by
   simp only[Act.eval]
   rw[Array.getD_eq_getD_getElem?,Array.getElem?_setIfInBounds_self_of_lt h104]
   rfl
  show K ⟨((tmps.setIfInBounds 103 (.int .i64 ((x.val:Nat):Int))).setIfInBounds 104 (zs.getD x.val undef)).setIfInBounds 11 (Act.eval ⟨(tmps.setIfInBounds 103 (.int .i64 ((x.val:Nat):Int))).setIfInBounds 104 (zs.getD x.val undef),[]⟩ (.tmp 104)),[]⟩ W
  rw[e]
  exact hK
 ·intro l' pre x W C' σ' hlt hgW hiW hfW hJ'
  obtain⟨kc',hkr,rfl⟩:=hJ'
  have hlx:x.val < l.length:=x.isLt
  obtain⟨f,hfx⟩:=Q00 (l:=fs) (i:=x.val) (by omega)
  obtain⟨cx,hcx,hfr⟩:=hf.get hfx
  have hci:=hkr.ids
  obtain⟨t,e,d⟩:=f
  cases hfr with
  |mk _ _ _ ec dc nx hxi he hd=>
  have hei:=he.ids
  have hdi:=hd.ids
  have hrx:R W C' (.box [.box (cTr t),ec,.sl 1 dc,nx]) (zs.getD x.val undef):=by
   rcases hz with hz|⟨b,off,_,hz⟩
   ·omega
   ·exact R.chg hgW.chg _ _ (by simp[hei,hdi,hxi]) (hz x.val _ hcx).2.2
  have hf2:=((hfW.put (d:=103) (x:=.one (int ((x.val:Nat):Int))) (u:=.int .i64 ((x.val:Nat):Int)) (show 103 < 137 by decide) (show RF W C' (.one (int _)) _ from ⟨rfl,rfl⟩)).put (d:=104) (show 104 < 137 by decide) (show RF W C' (.one (.box [.box (cTr t),ec,.sl 1 dc,nx])) _ from hrx)).put (d:=11) (show 11 < 137 by decide) (show RF W C' (.one (.box [.box (cTr t),ec,.sl 1 dc,nx])) _ from hrx)
  refine AIn.block (E:=⟨Tryz.prog,tab,Γ,137,[]⟩) (K:=fun e _ σ''=>e=.normal/\J (pre++[x]) σ'') (AIn.drawn follows ?_ ?_ ?_) _ W C' W C' _ (Goes.refl _ _ _ _) hiW hf2 l' 0
  ·rintro fr σ ⟨h,_⟩;cases h
  ·simp
  ·refine AAny.drawC2 tabOk 21 [18,19,20] [] (fun vs σ=>match vs with
    |[]=>σ=⟨0,[],ouX (mC tc0 ec0 vc0 kc' m.out m.steps fu ⟨ac,kt⟩) m.out.length ou0⟩
    |[g]=>g=.one (.box [.box (cTr t),ec,.sl 1 dc,kc'])/\σ=⟨0,[],ouX (mC tc0 ec0 vc0 kc' m.out m.steps fu ⟨ac,kt⟩) m.out.length ou0⟩
    |[g,a]=>g=.one (.box [.box (cTr t),ec,.sl 1 dc,kc'])/\a=.one (.ptr (.o 0) 0)/\σ=⟨0,[],ouX (mC tc0 ec0 vc0 kc' m.out m.steps fu ⟨ac,kt⟩) m.out.length ou0⟩
    |[g,a,b]=>g=.one (.box [.box (cTr t),ec,.sl 1 dc,kc'])/\a=.one (.ptr (.o 0) 0)/\b=.one (.ptr (.o 0) 3)/\σ=⟨0,[],ouX (mC tc0 ec0 vc0 kc' m.out m.steps fu ⟨ac,kt⟩) m.out.length ou0⟩
    |_=>False) follows (by kernel_rfl) rfl rfl (by decide) (by kernel_rfl) (by kernel_rfl) rfl rfl ?_ ?_ (by decide) ?_ ?_
   ·intro vs σ h
    match vs with
    |[]=>subst h;rfl
    |[_]=>obtain⟨_,rfl⟩:=h;rfl
    |[_,_]=>obtain⟨_,_,rfl⟩:=h;rfl
    |[_,_,_]=>obtain⟨_,_,_,rfl⟩:=h;rfl
    |_::_::_::_::_=>exact h.elim
   ·intro vs σ h
    exact trivial
   ·intro vs σ h i o hi ho
    match vs with
    |[]=>subst h;cases hi;cases ho;exact⟨rfl,.inl (.inl ⟨_,_,AStep.boxI rfl rfl,rfl,rfl⟩)⟩
    |[_]=>obtain⟨rfl,rfl⟩:=h;cases hi;cases ho;exact⟨rfl,.inl (.inl ⟨_,_,AStep.ofOp tabOk rfl,rfl,rfl,rfl⟩)⟩
    |[_,_]=>obtain⟨rfl,rfl,rfl⟩:=h;cases hi;cases ho;exact⟨rfl,.inl (.inl ⟨_,_,AStep.ofOp tabOk rfl,rfl,rfl,rfl,rfl⟩)⟩
    |_::_::_::_=>cases hi
   ·intro vs σ hl h
    match vs,hl with
    |[g,a,b],_=>
     obtain⟨rfl,rfl,rfl,rfl⟩:=h
     refine AOps.store tabOk rfl rfl rfl ?_
     refine AOps.nil ?_
     refine⟨rfl,.box [.box (cTr t),ec,.sl 1 dc,kc'],?_,?_⟩
     ·rw[List.map_append]
      show KR H nm (pushF fs k (pre.map Fin.val++[x.val])) _
      rw[Qas,List.getD_eq_getElem?_getD,hfx]
      exact .cons _ _ _ _ _ _ _ he hd hkr
     ·exact setX _ _ _ _
 ·intro D xs W C' σ' hD hS hgo hiW hfW hJ' hm
  have hpl:=hJp xs σ' hJ'
  obtain⟨kc',hkr,rfl⟩:=hJ'
  have hS':xs.map Fin.val=uptoL (fun j=>l.length - 1 - j) l.length:=hS
  rw[hS',hll,Qar fs k fs.length (Nat.le_refl _),Nat.sub_self,List.drop_zero]at hkr
  have hci:=hkr.ids
  refine Qjz (E:=⟨Tryz.prog,tab,Γ,137,[]⟩) tabOk hnl hi (Nat.le_trans hg.stp.size hD) hgo hiW hpl hfW hm (fun _ _ h=>h) (fun ds=>?_)
  refine ACode.seq ?_
  refine ACode.drawC2 tabOk 10 [7,8,9] [(3,.one (.box [c]))] (fun vs σ=>match vs with
   |[]=>σ=⟨0,[],ouX (mC tc0 ec0 vc0 kc' m.out m.steps fu ⟨ac,kt⟩) m.out.length ou0⟩
   |[s]=>s=.bot/\σ=⟨0,[],ouX (mC nilPE ec0 vc0 kc' m.out m.steps fu ⟨ac,kt⟩) m.out.length ou0⟩
   |[s,a]=>s=.bot/\a=.one (.ptr (.o 0) 0)/\σ=⟨0,[],ouX (mC nilPE ec0 vc0 kc' m.out m.steps fu ⟨ac,kt⟩) m.out.length ou0⟩
   |[s,a,b]=>s=.bot/\a=.one (.ptr (.o 0) 0)/\b=.one (.ptr (.o 0) 2)/\σ=⟨0,[],ouX (mC nilPE ec0 vc0 kc' m.out m.steps fu ⟨ac,kt⟩) m.out.length ou0⟩
   |_=>False) follows (by kernel_rfl) rfl rfl (by decide) (by kernel_rfl) (by kernel_rfl) rfl rfl ?_ ?_ (by decide) ?_ ?_
  ·intro vs σ h
   match vs with
   |[]=>subst h;rfl
   |[_]=>obtain⟨_,rfl⟩:=h;rfl
   |[_,_]=>obtain⟨_,_,rfl⟩:=h;rfl
   |[_,_,_]=>obtain⟨_,_,_,rfl⟩:=h;rfl
   |_::_::_::_::_=>exact h.elim
  ·intro vs σ h
   exact⟨⟨_,rfl,zIA rfl rfl rfl (by decide) rfl⟩,trivial⟩
  ·intro vs σ h i o hi ho
   match vs with
   |[]=>subst h;cases hi;cases ho;exact⟨rfl,.inl (.inl ⟨_,_,AStep.ofStore tabOk rfl,rfl,setX _ _ _ _⟩)⟩
   |[_]=>obtain⟨rfl,rfl⟩:=h;cases hi;cases ho;exact⟨rfl,.inl (.inl ⟨_,_,AStep.ofOp tabOk rfl,rfl,rfl,rfl⟩)⟩
   |[_,_]=>obtain⟨rfl,rfl,rfl⟩:=h;cases hi;cases ho;exact⟨rfl,.inl (.inl ⟨_,_,AStep.ofOp tabOk rfl,rfl,rfl,rfl,rfl⟩)⟩
   |_::_::_::_=>cases hi
  ·intro vs σ hl h
   match vs,hl with
   |[s,a',b],_=>
    obtain⟨rfl,rfl,rfl,rfl⟩:=h
    refine zA ?_
    refine⟨StQ.fin rfl rfl (.refl _ _) (MR.ofRt (m:=m) (k:=fs++k) hw ha hkr h0.ids.2.1 hfc rfl rfl (fun _=>rfl)),?_⟩
    show Q3u (St.set ⟨0,[],ouX (mC nilPE ec0 vc0 kc' m.out m.steps fu ⟨ac,kt⟩) m.out.length ou0⟩ (.o 0) (.cells (mC nilPE ec0 c kc' m.out m.steps fu ⟨ac,kt⟩)))
    rw[setX]
    exact hPl _
end
def fragB (hi:Bool)(l:Lab):Bool:=
 Go.CoreX.shape ⟨l.op,l.n,l.binds,l.ops,l.alts⟩&&((decide (0<=l.op)&&decide (l.op<=8))||(hi&&(decide (l.op=12)||decide (l.op=13))))&&(!(decide (l.op=8))||(decide (l.n=0)||decide (l.n=1)||decide (l.n=2)||decide (l.n=5)||decide (l.n=6)||decide (l.n=7))) &&
 decide (l.binds.length<=1048576)&&decide (l.alts.length<=1048576)&&(l.alts.all fun a=>decide (a.binds.length<=1048576))&&decide (l.ops.length<=1048576)&&(!(decide (l.op=1))||(decide (-1073741824<=l.n)&&decide (l.n<=1073741823)))&&(!(decide (l.op=5))||(l.ops.take l.binds.length==List.replicate l.binds.length 2))
theorem Qo6{hi:Bool}{l:Lab}(h:fragB hi l=true):FragL hi l:=by
 unfold fragB at h
 simp only[Bool.and_eq_true,Bool.or_eq_true,Bool.not_eq_true',decide_eq_true_eq,decide_eq_false_iff_not,List.all_eq_true,beq_iff_eq]at h
 obtain⟨⟨⟨⟨⟨⟨⟨⟨h1,h2⟩,h3⟩,h4⟩,h5⟩,h6⟩,h7⟩,h8⟩,h9⟩:=h
 refine⟨shpQ_of h1,?_,fun h=>?_,h4,h5,h6,h7,fun h=>?_,fun h i hi=>?_⟩
 ·rcases h2 with h2|⟨h2,h3⟩
  ·exact .inl h2
  ·exact .inr ⟨h2,h3⟩
 ·rcases h3 with h3|h3
  ·exact absurd h h3
  ·omega
 ·rcases h8 with h8|h8
  ·exact absurd h h8
  ·exact h8
 ·rcases h9 with h9|h9
  ·exact absurd h h9
  ·have:=congrArg (fun r=>r[i]?) h9
   simp only[List.getElem?_take_of_lt hi,List.getElem?_replicate,if_pos hi]at this
   exact this
theorem A_ok(op:Int)(al:List Alt)(ks:List Tr):APure Tryz.prog Γ 27 [.one (int op),.one (.sl 2 (al.map cAlt)),.one (.sl 1 (Q2x ks))] (.one (.box (cNd (.mk op 0 [] ks al)))):=by
 intro ou
 refine AFn.walk 13 tabOk Tryz.func27 rfl (by kernel_rfl) rfl rfl fun hou=>?_
 iterate 14 (first|((with_reducible refine oj ?_);refine zau ?_)|(with_reducible refine zst ?_)|((with_reducible refine Q0k ?_ ?_);rfl)|(with_reducible refine ok ?_;first|refine ACode.condT rfl ?_|refine ACode.condF rfl ?_))
 refine AOps.freeze1 (.l 0) 6 rfl rfl ?_
 refine zA ?_
 refine APure.fin rfl (.one (Wk.box ?_)) (by simp) hou rfl
 exact .cons (.refl _) (.cons (.refl _) (.cons (.nilS 1) (.cons (.any _) (.cons (.refl _) (.cons (.refl _) .nil)))))
end Go.Proofs.YtpaonemmbhbgoaaGreatDoor
namespace Go.CoreX
def opI (n x y:Int):Int:=if n=0 then x+y else if n=1 then x - y else x * y
inductive Wd:Tr->Int->Nat->Prop
 |w (n:Int) (h:-1073741824<=n/\n<=1073741823):Wd (wordT n) n 0
 |p (n:Int) (a b:Tr) (x y:Int) (c d:Nat) (h:0<=n/\n<=2) (ha:Wd a x c) (hb:Wd b y d):Wd (.mk 8 n [] [a,b] []) (wrapI (opI n x y)) (c+d+1)
theorem Wd.cnt{t:Tr}{v:Int}{k:Nat}(h:Wd t v k):cntN t=2 * k+1:=by
 induction h with
 |w n h=>rfl
 |p n a b x y c d h ha hb iha ihb=>simp only[cntN,cntNs,iha,ihb];omega
theorem Wd.dep{t:Tr}{v:Int}{k:Nat}(h:Wd t v k):0<=Q0v t/\Q0v t<=k+1:=by
 induction h with
 |w n h=>simp[wordT,Q0v,Q3j]
 |p n a b x y c d h ha hb iha ihb=>
  simp only[Q0v,Q3j,List.foldl_cons,List.foldl_nil,mx]
  push_cast
  split <;> split <;> omega
def noB (l:Lab):Prop:=Q08 l.op l.binds l.alts=[]
theorem Ql5{n:Int}(h:-1073741824<=n/\n<=1073741823):pLab ⟨1,n,[],[],[]⟩:=fun e x hk hl=>by
 obtain⟨o,m,b,ks,a⟩:=x
 simp only[labE,Lab.mk.injEq,List.map_eq_nil_iff]at hl
 obtain⟨rfl,rfl,rfl,rfl,rfl⟩:=hl
 have hb:between m (-1073741824) 1073741823=true:=by simp[between];omega
 simp[Q0g,Q1b,shape,wants,ranges,lowN,highN,hb,fields,Q4j,Q5j]
theorem Ql6{n oa ob:Int}(h:0<=n/\n<=2):pLab ⟨8,n,[],[oa,ob],[]⟩:=fun e x hk hl=>by
 obtain⟨o,m,b,ks,a⟩:=x
 simp only[labE,Lab.mk.injEq]at hl
 obtain⟨rfl,rfl,rfl,hks,rfl⟩:=hl
 have hlen:ks.length=2:=by simpa using congrArg List.length hks
 have hb:between m 0 11=true:=by simp[between];omega
 have hb2:between m 0 1048575=true:=by simp[between];omega
 have h3:m=0∨m=1∨m=2:=by omega
 have ha:Q5c[m.toNat]?.getD 0=2:=by rcases h3 with rfl|rfl|rfl <;> rfl
 simp[Q0g,Q1b,shape,wants,ranges,lowN,highN,hb,hb2,ha,hlen,fields,Q4j,Q5j]
theorem Wd.pLab{t:Tr}{v:Int}{k:Nat}(h:Wd t v k):allT pLab t/\allT noB t/\∀sc,occT sc t=[]:=by
 induction h with
 |w n h=>exact⟨⟨Ql5 h,trivial⟩,⟨rfl,trivial⟩,fun sc=>rfl⟩
 |p n a b x y c d h ha hb iha ihb=>
  refine⟨⟨Ql6 h,iha.1,ihb.1,trivial⟩,⟨rfl,iha.2.1,ihb.2.1,trivial⟩,fun sc=>?_⟩
  simp[occT,occTs,iha.2.2,ihb.2.2]
theorem Wd.check{t:Tr}{v:Int}{k:Nat}(h:Wd t v k)(hk:k<=40):check (listT [] t)=0:=by
 have t2:=Q0s t
 refine Qiv ((Q1f _).2 ⟨?_,t2,?_⟩) (fun y hy=>?_) ?_ ?_
 ·have:=Q1o t []
  rw[h.cnt]at this
  simp only[List.length_nil]at this
  omega
 ·rw[Q0b]
  have:=h.dep
  omega
 ·have:=Q6t t2 (by rw[Q0b];exact h.pLab.1) _ (List.mem_map_of_mem (f:=labE (listT [] t)) hy)
  exact this _ y (Q7e t2.k hy) rfl
 ·rw[Q1z]
  have h2:=Q6t t2 (by rw[Q0b];exact h.pLab.2.1)
  rw[List.flatMap_eq_nil_iff.2 h2]
  exact List.nodup_nil
 ·rw[Q0b];exact h.pLab.2.2 []
end Go.CoreX
namespace Go.Proofs.YtpaonemmbhbgoaaGreatDoor
open Go Go.Abs Go.CoreX
set_option maxRecDepth 100000
def Qcy:Tr:=.mk 8 0 [] [.mk 3 0 [] [tV 3,tV 2] [],.mk 3 0 [] [tV 3,.mk 8 0 [] [tV 2,tV 2] []] []] []
def Q40:Tr:=.mk 13 0 [] [.mk 8 0 [] [tW 1,.mk 12 5 [] [tW 3] []] [],tV 1,Qcy] [⟨-1,[1]⟩,⟨5,[2,3]⟩]
theorem Qgl:check (listT [] Q40)=0:=by decide +kernel
set_option maxRecDepth 100000
def addT' (s:Tr)(n:Int):Tr:=.mk 8 0 [] [s,.mk 3 0 [] [tV 3,tW n] []] []
def sumR (ws:List Int):Tr:=ws.foldl addT' (tW 0)
def resT (b:Int)(ws:List Int):Tr:=.mk 13 0 [] [.mk 8 0 [] [tW b,.mk 12 7 [] [tW 1] []] [],tV 1,sumR ws] [⟨-1,[1]⟩,⟨7,[2,3]⟩]
variable {Γ:List (Nat×List AC)}
structure FragM (l:Lab):Prop where
 hi:FragL true l
 op:l.op=0∨l.op=1∨l.op=3∨l.op=8∨l.op=12∨l.op=13
 pr:l.op=8->l.n=0
def G2:GP:={ p:=FragM,S:=fun _=>True,W:=inW,fns:=[],R:=True }
theorem G2ok:GPok G2 where
 sh:=fun l h=>h.hi.sh
 bnd:=fun _ _ _ _=>trivial
 wd:=fun l h h1=>h.hi.wd h1
 rc:=fun l h h1=>h.hi.rc h1
 wr:=(G1ok true).wr
 wl:=(G1ok true).wl
 wm:=(G1ok true).wm
 fn:=fun f hf=>by cases hf
 cl:=fun l h ho=>by
  exfalso
  have:=h.op
  omega
 rs:=fun l h ho=>trivial
theorem Qnk(hΓ:∀g cs,(g,cs)∈Γ->idsL isO cs){H:Hm}{nm:Nm2}{x y:Int}(hx:inW x)(hy:inW y)(ou:Outer):
  AFn Tryz.prog Γ 170 [.one (.ptr (.o 0) 0),.one (int 0),.one (.sl 1 [[iW x],[iW y]])] ou (fun r ou'=>r=.one (iW (wrapW (x+y)))/\ou'=ou):=by
 obtain⟨hx0,hx1⟩:=hx
 obtain⟨hy0,hy1⟩:=hy
 refine AFn.walk 152 tabOk Tryz.func170 rfl (by kernel_rfl) rfl rfl fun hou=>?_
 refine zA ?_
 refine ACode.drawX tabOk 11 [(1,.one (.box [iW x])),(3,.one (int x)),(5,.one (.box [iW y])),(7,.one (int y)),(8,.one (int (x+y))),(9,.one (int (wrapW (x+y)))),(10,.one (iW (wrapW (x+y))))] follows (by kernel_rfl) rfl rfl rfl rfl ?_ ?_
 ·exact⟨⟨_,rfl,zIA rfl rfl rfl (by decide) rfl⟩,⟨_,rfl,AStep.callPure hΓ rfl rfl rfl (by simp[idsF,iW]) hou (Qgz x)⟩,⟨_,rfl,zIA rfl rfl rfl (by decide) rfl⟩,⟨_,rfl,AStep.callPure hΓ rfl rfl rfl (by simp[idsF,iW]) hou (Qgz y)⟩,⟨_,rfl,AStep.arith rfl rfl rfl (.inl ⟨rfl,rfl⟩) zI⟩,⟨_,rfl,AStep.callPure hΓ rfl rfl rfl (by simp[idsF]) hou (Qo7 _ (by omega) (by omega))⟩,⟨_,rfl,AStep.mkIfc conc3 rfl rfl⟩,trivial⟩
 refine zA ?_
 exact AFn.fin' rfl (WkF.ofEq rfl) (by simp[iW]) hou ⟨rfl,rfl⟩
theorem kidC2(hΓ:∀g cs,(g,cs)∈Γ->idsL isO cs){fu:Int}{ac:AC}(hac:ac.ids isO):KidC fu ac G2 Γ:=by
 intro ou H nm m m' t e d k ec kc tc0 ec0 vc0 kc0 dc kt h0 he hd hk ht hge hgd hle hn hgk hkb hol hx hnx
 have F:FragM ⟨t.op,t.n,t.binds,t.kids.map Tr.op,t.alts⟩:=Q2n ht
 have hsh:=g_sh G2ok ht
 have hopk:=g_opN G2ok ht
 have hfc:(FcT.mk ac kt).ids isO:=hac
 have hx0:kidM fu [] m (.mk t e d) k=.ok m':=hx
 by_cases hlt:d.length < opdN t
 ·obtain⟨s,hs⟩:=Q00 (Nat.lt_of_lt_of_le hlt hopk)
  have:=AFnP.okStep (Qnw (fns:=[]) hΓ h0 hfc he hd hk hlt hs) hx0
  rwa [hx0]at this
 have hl:d.length=opdN t:=by omega
 have hnl:¬(Fm.mk t e d).done.length < opdN (Fm.mk t e d).t:=hlt
 obtain⟨o,n,b,ks,al⟩:=t
 simp only[Tr.op,Tr.n,Tr.binds,Tr.kids,Tr.alts]at F hsh
 have hops:o=3∨o=8∨o=12∨o=13:=by
  have h1:=F.op
  unfold nLf at hn
  simp only[Tr.op]at hn
  simp only at h1
  omega
 rcases hops with rfl|rfl|h12
 ·have hopn:opdN (.mk 3 n b ks al)=ks.length:=rfl
  have hkl:=hsh.app.1
  rw[hopn]at hl
  match d,hd,hl with
  |[],_,hl=>simp at hl;omega
  |v0::ds,hd,hl=>
   obtain⟨c0,dcs,rfl,hv0,hds⟩:=hd.consE
   have hcm:callM [] { m with k:=k } v0 ds=.ok m':=by
    unfold kidM at hx0
    rw[if_neg hnl]at hx0
    exact hx0
   refine kid_app hΓ h0 hfc he hv0 hds hk (by simpa using hl) rfl (fun ou' h0'=>?_)
   cases v0 with
   |clo t' e'=>
    obtain⟨g1,g2,_⟩:=hgd.1
    have:=(Q2n g2).op
    simp only[g1]at this
    omega
   |cap n s=>exact absurd hgd.1.1.2 (by show ¬(n < 0);have:=hgd.1.1.1;omega)
   |res fs=>
    match ds,hds,hcm with
    |[a],hds,hcm=>
     obtain⟨c,ds2,rfl,hva,hnil⟩:=hds.consE
     have hz:=hnil.nilE
     subst hz
     cases hcm
     exact Qoc hΓ hac ou' H nm m k fs kc tc0 ec0 vc0 kt _ a c h0' hk hv0 hva (hnx trivial)
    |[],_,hcm=>cases hcm
    |_::_::_,_,hcm=>cases hcm
   |_=>cases hcm
 ·have hpn:=hsh.prim
  have hopn:opdN (.mk 8 n b ks al)=ks.length:=rfl
  rw[hopn]at hl
  have hn0:n=0:=F.pr rfl
  subst hn0
  have hpm:(Q4p fu { m with k:=k } (.mk 8 0 b ks al) d).map (fun (m',v)=>{ m' with c:=.rt v })=.ok m':=by
   unfold kidM at hx0
   rw[if_neg hnl]at hx0
   exact hx0
  have hpm2:Q4p fu { m with k:=k } (.mk 8 0 b ks al) d=primM fu { m with k:=k } 0 d:=rfl
  rw[hpm2]at hpm
  have hk2:ks.length=2:=by
   have:=hpn.2.2.1
   simp[Q5c]at this
   omega
  obtain⟨x0,y0,rfl⟩:=list2 (l:=d) (by omega)
  cases hpr:primM fu { m with k:=k } 0 [x0,y0] with
  |error c=>rw[hpr]at hpm;cases hpm
  |ok mv=>
   obtain⟨m1,v⟩:=mv
   obtain⟨x,y,rfl,rfl⟩:=Qjb (.inl rfl) hpr
   cases hpr
   cases hpm
   obtain⟨c0,d1,rfl,hv0,hd1⟩:=hd.consE
   obtain⟨c1,d2,rfl,hv1,hd2⟩:=hd1.consE
   have hz:=hd2.nilE
   subst hz
   have e0:=hv0.wordE
   have e1:=hv1.wordE
   subst e0;subst e1
   show AFn Tryz.prog Γ 111 _ ou (StQ fu ⟨ac,kt⟩ H nm (.ok { m with c:=.rt (.word (wrapW (x+y))),k:=k }))
   refine Qlp hΓ h0 hfc he hd hk hl (by simp[Tr.op]) fun ou' h0'=>Qjc hΓ hd rfl ?_
   refine AFn.mono (Qnk (H:=H) (nm:=nm) hΓ hgd.1 hgd.2.1 ou') fun r ou2 hq=>?_
   obtain⟨rfl,rfl⟩:=hq
   exact⟨kt,H,nm,_,rfl,.refl _ _,.word _,⟨h0'.ids,h0'.m0,h0'.w⟩⟩
 ·have hl1:d.length=1:=by rw[hl];exact if_pos (show o=4∨o=7∨o=13∨o=12 by omega)
  exact kid_hi hΓ hac ou H nm m m' _ e d k ec kc tc0 ec0 vc0 kc0 dc kt h0 he hd hk (Q6v (fun _ h=>h.hi) _ ht) (G:=G2) (fun _ h=>h.hi) hgk (hkb trivial) hl1 h12 hx0
theorem startC2(hΓ:∀g cs,(g,cs)∈Γ->idsL isO cs){fu:Int}{ac:AC}(hac:ac.ids isO):StartC fu ac G2 Γ:=by
 intro ou H nm m m' t e ec vc kc kt h0 he hkr ht hge hgk hkb hol hx hnx
 have F:FragM ⟨t.op,t.n,t.binds,t.kids.map Tr.op,t.alts⟩:=Q2n ht
 have hfc:(FcT.mk ac kt).ids isO:=hac
 have hx0:Q3c fu [] m t e=.ok m':=hx
 have hop:=F.op
 simp only at hop
 by_cases e0:t.op=0
 ·have:=Qkf hΓ h0 hfc he hkr e0
  unfold Q3c at hx0;rw[if_pos e0]at hx0;cases hx0;exact this
 by_cases e1:t.op=1
 ·have:=Qkh hΓ h0 hfc hkr e1
  unfold Q3c at hx0;rw[if_neg e0,if_pos e1]at hx0;cases hx0;exact this
 have hx1:kidM fu [] m (.mk t e []) m.k=.ok m':=by
  unfold Q3c at hx0;rw[if_neg e0,if_neg e1,if_neg (by omega),if_neg (by omega),if_neg (by omega)]at hx0;exact hx0
 have hnl:nLf t.op:=fun h=>by omega
 exact Qki hΓ h0 he hkr hnl (kidC2 hΓ hac ou H nm m m' t e [] m.k ec kc _ _ _ _ [] kt h0 he .nil hkr ht hge trivial (Nat.zero_le _) hnl hgk hkb hol hx1 hnx)
theorem Run2_ok{fu:Int}{e:List Ex}{mf:Ms}{vf:Vl}(he:okB e)(hck:check e=0)(hfr:allT FragM (grow e))(hfu:1<=fu/\fu<=1000000){g:Nat}(hg:goX fu [] g ⟨.ev (grow e) .nil,[],[],0,[]⟩=some (.done mf vf))(hgb:bndX fu [] g ⟨.ev (grow e) .nil,[],[],0,[]⟩=true)(hout:mf.out.length<=1000)(hst:mf.steps<=fu):
  APure Tryz.prog Γc 28 [.one (.sl 5 (e.map cEx)),.one (int fu)] (.tup [.agg [.sl 1 (mf.out.map cI),int 0,int (lastV vf)],.one (int mf.steps),.one (int 0)]):=by
 have t1:=Q0h hck
 have c1:=Q38 e he
 rw[hck]at c1
 have hM0:=MR_init (grow e) fu
 have hkc:=kidC2 hΓc (fu:=fu) (ac:=nilS) trivial
 have hsc:=startC2 hΓc (fu:=fu) (ac:=nilS) trivial
 have hgm:gM G2 ⟨.ev (grow e) .nil,[],[],0,[]⟩:=⟨⟨hfr,trivial⟩,trivial,fun r hr=>by cases hr⟩
 have hrun:=run_ok hΓc (ac:=nilS) trivial G2ok (fun t ht=>G1opn (Q6v (fun _ h=>h.hi) t ht)) hkc hsc hM0 hgm hg (fun _=>hgb) hout ⟨by omega,hfu.2⟩ (by simp) hst
 have hwh0:=Qn2 (ac:=nilS) (kt0:=1) hΓc hrun
 have hwh:AFn Tryz.prog Γc 60 [.one (.ptr (.o 0) 0)] (ouOf [.cells (mC (.box (cTr (grow e))) nilPE (.lit .nilIface) nilPE [] 0 fu ⟨nilS,1⟩),.tok 3 1 0]) (fun r ou'=>r=.tup [.agg [.sl 1 (mf.out.map cI),int 0,int (lastV vf)],.one (int mf.steps),.one (int 0)]/\ou'=ouOf [.dead,.dead]):=by
  refine AFn.forgetD (AFn.mono hwh0 fun r ou' hq=>⟨ouOf [.dead,.dead],fun m o hmo=>?_,hq,rfl⟩)
  match m,hmo with
  |0,hmo=>cases hmo;exact .inr ⟨rfl,_,rfl⟩
  |1,hmo=>cases hmo;exact .inr ⟨rfl,_,rfl⟩
  |m+2,hmo=>simp[ouOf]at hmo
 intro ou
 refine AFn.walk 30 tabOk Tryz.func28 rfl (by kernel_rfl) rfl rfl fun hou=>?_
 refine zA ?_
 refine zca hΓc c1 hou ?_
 refine zA ?_
 have hf1:decide (fu < 1)=false:=by simp;omega
 have hf2:decide (fu > 1000000)=false:=by simp;omega
 refine AOps.wk 16 rfl (y:=.one (.lit (.bool false))) (.ofEq (by show FV.one (.lit (.bool (decide (fu < 1))))=_;rw[hf1])) ?_
 refine zM ?_
 refine ACode.cond rfl (fun hb=>absurd (show 1000000 < fu by simpa using hb) (by omega)) (fun _=>?_)
 refine zM ?_
 refine zca hΓc (Qa8 hΓc e he.eo t1.k t1.ne) hou ?_
 repeat ((fail_if_success ((with_reducible refine oj ?_);refine AOps.atDst 26 rfl ?_));first|refine zO ?_)
 refine AOps.growO 1 4 3 1 rfl rfl ?_
 refine AOps.callR [.l 1,.l 2] [.one (.ptr (.o 0) 0)] [.cells (mC (.box (cTr (grow e))) nilPE (.lit .nilIface) nilPE [] 0 fu ⟨nilS,1⟩),.tok 3 1 0] hΓcF rfl rfl rfl rfl rfl rfl ?_ ?_ ?_ ?_ ?_ hwh ?_
 ·rfl
 ·simp[inO]
 ·simp
 ·refine⟨?_,rfl,trivial⟩
  simp only[AObj.sub,mC,subL,AC.sub,nameOf,List.map_nil,subS]
  rw[Q1v _ _ (by simp)]
  rfl
 ·simp[inO,mC]
 intro r ou' hq
 obtain⟨rfl,rfl⟩:=hq
 refine⟨[.dead,.dead],rfl,rfl,by simp,by simp,?_⟩
 rw[show FV.sub (nameOf [.l 1,.l 2]) (.tup [.agg [.sl 1 (mf.out.map cI),int 0,int (lastV vf)],.one (int mf.steps),.one (int 0)])=.tup [.agg [.sl 1 (mf.out.map cI),int 0,int (lastV vf)],.one (int mf.steps),.one (int 0)]from FV.sub_pure _ _ (by simp)]
 refine zA ?_
 exact APure.fin rfl (WkF.ofEq rfl) (by simp) hou rfl
theorem N2(o n:Int)(a b:Tr):APure Tryz.prog Γ 26 [.one (int o),.one (int n),.one (.sl 1 [[.box (cNd a)],[.box (cNd b)]])] (.one (.box (cNd (.mk o n [] [a,b] [])))):=by
 have:=N_ok (Γ:=Γ) o n [a,b]
 rwa [Q3i]at this
theorem Qk9(hΓ:∀g cs,(g,cs)∈Γ->idsL isO cs)(a b:Tr):APure Tryz.prog Γ 80 [.one (.box (cNd a)),.one (.box (cNd b))] (.one (.box (cNd (.mk 8 0 [] [a,b] [])))):=by
 have hN:=N2 (Γ:=Γ) 8 0 a b
 intro ou
 refine AFn.walk 9 tabOk Tryz.func80 rfl (by kernel_rfl) rfl rfl fun hou=>?_
 refine zA ?_
 refine zca hΓ hN hou ?_
 refine zA ?_
 exact APure.fin rfl (WkF.ofEq rfl) (by simp) hou rfl
theorem Qiz(hΓ:∀g cs,(g,cs)∈Γ->idsL isO cs)(a:Tr):APure Tryz.prog Γ 81 [.one (.box (cNd a))] (.one (.box (cNd (.mk 3 0 [] [tV 3,a] [])))):=by
 have hN:=N2 (Γ:=Γ) 3 0 (tV 3) a
 intro ou
 refine AFn.walk 7 tabOk Tryz.func81 rfl (by kernel_rfl) rfl rfl fun hou=>?_
 refine zA ?_
 refine zca hΓ (V_ok hΓ 3) hou ?_
 refine zA ?_
 refine zca hΓ hN hou ?_
 refine zA ?_
 exact APure.fin rfl (WkF.ofEq rfl) (by simp) hou rfl
theorem Qe3:okT Q40:=by
 simp only[Q40,Qcy,tV,tW,okT,okTs]
 simp
theorem Qey:cntN Q40=15:=by simp[Q40,Qcy,tV,tW,cntN,cntNs]
theorem Qmu(hΓ:∀g cs,(g,cs)∈Γ->idsL isO cs):APure Tryz.prog Γ 51 [] (.one (.sl 5 ((listT [] Q40).map cEx))):=by
 have hL:=Qa7 hΓ Q40 Qe3 (by have:=Q1o Q40 [];rw[Qey]at this;simp at this;omega)
 intro ou
 refine AFn.walk 31 tabOk Tryz.func51 rfl (by kernel_rfl) rfl rfl fun hou=>?_
 refine zA ?_
 refine zca hΓ (V_ok hΓ 2) hou ?_
 refine zca hΓ (Qiz hΓ (tV 2)) hou ?_
 refine zA ?_
 refine zca hΓ (V_ok hΓ 2) hou ?_
 refine zca hΓ (V_ok hΓ 2) hou ?_
 refine zca hΓ (Qk9 hΓ (tV 2) (tV 2)) hou ?_
 refine zca hΓ (Qiz hΓ (.mk 8 0 [] [tV 2,tV 2] [])) hou ?_
 refine zca hΓ (Qk9 hΓ (.mk 3 0 [] [tV 3,tV 2] []) (.mk 3 0 [] [tV 3,.mk 8 0 [] [tV 2,tV 2] []] [])) hou ?_
 refine zA ?_
 refine zca hΓ (W_ok hΓ 1) hou ?_
 refine zca hΓ (W_ok hΓ 3) hou ?_
 refine zA ?_
 refine zca hΓ (N_ok (Γ:=Γ) 12 5 [tW 3]) hou ?_
 refine zca hΓ (Qk9 hΓ (tW 1) (.mk 12 5 [] [tW 3] [])) hou ?_
 refine zca hΓ (V_ok hΓ 1) hou ?_
 refine zA ?_
 refine zca hΓ (A_ok (Γ:=Γ) 13 [⟨-1,[1]⟩,⟨5,[2,3]⟩] [.mk 8 0 [] [tW 1,.mk 12 5 [] [tW 3] []] [],tV 1,Qcy]) hou ?_
 refine zca hΓ hL hou ?_
 refine zA ?_
 exact APure.fin rfl (WkF.ofEq rfl) (by simp) hou rfl
theorem Qle:okB (listT [] Q40):=Q5f (Q49 _ Qe3) (by rw[Qey];omega)
theorem Q1h{l:Lab}(h:fragB true l=true)(h2:(l.op==0||l.op==1||l.op==3||l.op==8||l.op==12||l.op==13)=true)(h3:(!(l.op==8)||l.n==0)=true):FragM l:=by
 simp only[Bool.or_eq_true,beq_iff_eq,Bool.not_eq_true',beq_eq_false_iff_ne]at h2 h3
 exact⟨Qo6 h,by omega,fun h=>h3.resolve_left fun h4=>h4 h⟩
theorem Qgb:allT FragM Q40 :=
 ⟨Q1h rfl rfl rfl, ⟨Q1h rfl rfl rfl, ⟨Q1h rfl rfl rfl, trivial⟩, ⟨Q1h rfl rfl rfl, ⟨Q1h rfl rfl rfl, trivial⟩, trivial⟩, trivial⟩, ⟨Q1h rfl rfl rfl, trivial⟩,
  ⟨Q1h rfl rfl rfl,⟨Q1h rfl rfl rfl,⟨Q1h rfl rfl rfl,trivial⟩,⟨Q1h rfl rfl rfl,trivial⟩,trivial⟩,⟨Q1h rfl rfl rfl,⟨Q1h rfl rfl rfl,trivial⟩,⟨Q1h rfl rfl rfl,⟨Q1h rfl rfl rfl,trivial⟩,⟨Q1h rfl rfl rfl,trivial⟩,trivial⟩,trivial⟩,trivial⟩,trivial⟩
theorem Qnd{fu:Int}(h:fu=999∨fu=2000∨fu=1000000):APure Tryz.prog Γc 28 [.one (.sl 5 ((listT [] Q40).map cEx)),.one (int fu)] (.tup [.agg [.sl 1 [],int 0,int 11],.one (int 16),.one (int 0)]):=by
 have hf:allT FragM (grow (listT [] Q40)):=by rw[Q0b];exact Qgb
 have key:=Run2_ok (mf:=⟨.rt (.word 11),[],[],16,[]⟩) (vf:=.word 11) (g:=100) (fu:=fu) Qle Qgl hf (by omega)
 rw[Q0b]at key
 have key2:=key (by rcases h with rfl|rfl|rfl <;> kernel_rfl) (by rcases h with rfl|rfl|rfl <;> kernel_rfl) (by simp) (by show (16:Int)<=fu;omega)
 exact key2
theorem tRun_ok:APure Tryz.prog Γc 50 [.one (.sl 5 ((listT [] Q40).map cEx))] (.tup [.agg [.sl 1 [],int 0,int 11],.one (.lit (.bool true))]):=by
 have hR:=Qnd (fu:=2000) (.inr (.inl rfl))
 intro ou
 refine AFn.walk 21 tabOk Tryz.func50 rfl (by kernel_rfl) rfl rfl fun hou=>?_
 refine zA ?_
 refine zca hΓc hR hou ?_
 refine zM ?_
 refine ACode.drawSt tabOk 9 8 [] _ follows (by kernel_rfl) rfl rfl (by kernel_rfl) rfl ?_ rfl rfl rfl rfl ?_ ?_ (AStep.ofStore tabOk rfl) ?_
 ·rfl
 ·trivial
 ·trivial
 refine zM ?_
 exact APure.fin rfl (WkF.ofEq rfl) (by simp) hou rfl
theorem Qn5:APure Tryz.prog Γc 15 [] (.one (.lit (.bool true))):=by
 intro ou
 refine AFn.walk 14 tabOk Tryz.func15 rfl (by kernel_rfl) rfl rfl fun hou=>?_
 refine zA ?_
 refine zca hΓc (Qmu hΓc) hou ?_
 refine zca hΓc tRun_ok hou ?_
 refine zM ?_
 exact APure.fin rfl (WkF.ofEq rfl) (by simp) hou rfl
end Go.Proofs.YtpaonemmbhbgoaaGreatDoor
namespace Go.CoreX
def shX (k:Nat)(x:Ex):Ex:=⟨x.op,x.n,x.binds,x.kids.map (fun q=>q+(k:Int)),x.alts⟩
theorem shX_shX(a b:Nat)(x:Ex):shX a (shX b x)=shX (a+b) x:=by
 simp only[shX,List.map_map]
 congr 1
 refine List.map_congr_left fun q _=>?_
 simp only[Function.comp_apply]
 push_cast
 omega
mutual
theorem Qi0:∀(t:Tr)(out:List Ex),listT out t=out++(listT [] t).map (shX out.length)
 |.mk o n b ks a,out=>by
  obtain⟨h1,h2⟩:=Q9c ks out
  simp only[listT]
  rw[h1,h2]
  simp[shX]
theorem Q9c:∀(l:List Tr)(out:List Ex),(Q02 out l).1=out++(Q02 [] l).1.map (shX out.length)/\(Q02 out l).2=(Q02 [] l).2.map (fun q=>q+(out.length:Int))
 |[],out=>by simp[Q02]
 |t::ts,out=>by
  obtain⟨a1,a2⟩:=Q9c ts (listT out t)
  obtain⟨b1,b2⟩:=Q9c ts (listT [] t)
  have h:=Qi0 t out
  have hl:(listT out t).length=out.length+(listT [] t).length:=by rw[h];simp
  simp only[Q02]
  refine⟨?_,?_⟩
  ·rw[a1,b1,hl,h,List.map_append,List.map_map,List.append_assoc]
   congr 2
   refine List.map_congr_left fun x _=>?_
   exact (shX_shX _ _ _).symm
  ·rw[a2,b2,hl,List.map_cons,List.map_map]
   congr 1
   ·push_cast;omega
   ·refine List.map_congr_left fun q _=>?_
    simp only[Function.comp_apply]
    push_cast;omega
end
theorem Qen(A:List Tr)(p:Nat)(u:Tr):∀(n:Nat)(l:List Ex),l.length=n->Q0p l->(l.map (shX A.length)).foldl (Q1c (A.length+p) u) A=A++Q1e l p u
 |0,l,h,_=>by
  have:l=[]:=List.eq_nil_of_length_eq_zero h
  subst this
  simp[Q1e]
 |n+1,l,h,hk=>by
  rcases List.eq_nil_or_concat l with rfl|⟨l',x,rfl⟩
  ·simp at h
  rw[List.concat_eq_append]at h hk ⊢
  obtain⟨hk',hx⟩:=Q2q.1 hk
  rw[List.map_append,List.foldl_append,Qen A p u n l' (by simpa using h) hk',Q5x]
  simp only[List.map_cons,List.map_nil,List.foldl_cons,List.foldl_nil,Q1c]
  rw[List.append_assoc]
  congr 2
  have hG:=Q2t l' p u
  by_cases hp:l'.length=p
  ·rw[if_pos (by rw[List.length_append,hG,hp]),if_pos hp]
  ·rw[if_neg (by rw[List.length_append,hG];omega),if_neg hp]
   simp only[Q1m,shX,List.map_map]
   congr 2
   refine List.map_congr_left fun q hq=>?_
   obtain⟨h1,h2⟩:=hx q hq
   simp only[Function.comp_apply]
   rw[show (q+(A.length:Int)).toNat=A.length+q.toNat by omega,List.getD_eq_getElem?_getD,List.getElem?_append_right (by omega),Nat.add_sub_cancel_left,←List.getD_eq_getElem?_getD]
theorem Q9l(p:Nat)(u:Tr):∀(l:List Ex)(ts:List Tr),ts.length+l.length<=p->l.foldl (Q1c p u) ts=l.foldl Q4f ts
 |[],ts,_=>rfl
 |x::l,ts,h=>by
  simp only[List.length_cons]at h
  rw[List.foldl_cons,List.foldl_cons]
  have e:Q1c p u ts x=Q4f ts x:=by
   unfold Q1c Q4f
   rw[if_neg (by omega)]
  rw[e]
  exact Q9l p u l (Q4f ts x) (by simp[Q4f];omega)
theorem Q7l{e:List Ex}{p:Nat}{u:Tr}(h:e.length<=p):Q1e e p u=growL e:=Q9l p u e [] (by simpa using h)
-- The expression with an unused function around it.
def lamF (id:Int):Tr:=.mk 2 0 [id+1] [.mk 0 (id+1) [] [] []] []
def arF (id:Int)(t:Tr):Tr:=.mk 4 0 [id] [lamF id,t] []
def preF (id:Int):List Ex:=[⟨0,id+1,[],[],[]⟩,⟨2,0,[id+1],[0],[]⟩]
def preG (id:Int):List Tr:=[.mk 0 (id+1) [] [] [],lamF id]
theorem Qg0(id:Int)(t:Tr):listT [] (arF id t)=(preF id++(listT [] t).map (shX 2))++[⟨4,0,[id],[1,((listT [] t).length:Int)+1],[]⟩]:=by
 have h:=Qi0 t (preF id)
 have h0:listT [] (lamF id)=preF id:=rfl
 simp only[arF,listT,Q02,h0]
 rw[h]
 congr 3
 simp only[preF,List.length_append,List.length_map,List.length_cons,List.length_nil,List.cons.injEq,and_true]
 exact⟨by simp,by push_cast;try omega⟩
theorem Q3g(id:Int)(t:Tr):(listT [] (arF id t)).length=(listT [] t).length+3:=by
 rw[Qg0];simp[preF]
theorem Qeo(id:Int)(t:Tr)(i:Nat)(X:Tr)(hi:i≠(listT [] t).length):Q1e (listT [] (arF id t)) (i+2) X=(preG id++Q1e (listT [] t) i X)++[arF id (growR (listT [] t) i X)]:=by
 have hk:=(Q0s t).k
 have hpos:=List.length_pos_iff.2 (Q0s t).ne
 have hG:=Q2t (listT [] t) i X
 unfold Q1e
 rw[Qg0,List.foldl_append,List.foldl_append]
 have h1:(preF id).foldl (Q1c (i+2) X) []=preG id:=by
  simp[preF,Q1c,Q1m,preG,lamF]
 rw[h1]
 have h2:=Qen (preG id) i X _ (listT [] t) rfl hk
 rw[show (preG id).length=2 from rfl,Nat.add_comm]at h2
 rw[h2]
 have hR:growR (listT [] t) i X=(Q1e (listT [] t) i X).getD ((listT [] t).length - 1) default:=rfl
 show Q1c _ _ _ _=_
 simp only[Q1c]
 rw[if_neg (by rw[List.length_append,hG];show ¬2+_=_;omega)]
 congr 2
 simp only[Q1m,arF,List.map_cons,List.map_nil]
 congr 1
 rw[show (1:Int).toNat=1 from rfl,show (((listT [] t).length:Int)+1).toNat=2+((listT [] t).length - 1) by omega]
 congr 1
 congr 1
 rw[hR,List.getD_eq_getElem?_getD,List.getElem?_append_right (show (preG id).length<=_ by show 2<=_;omega),show 2+((listT [] t).length - 1) - (preG id).length=(listT [] t).length - 1 by show 2+_ - 2=_;omega,←List.getD_eq_getElem?_getD]
theorem Qih(id:Int)(t:Tr):growL (listT [] (arF id t))=(preG id++growL (listT [] t))++[arF id t]:=by
 have h:=Qeo id t ((listT [] t).length+1) default (by omega)
 rw[Q7l (by rw[Q3g];omega),Q7l (by omega)]at h
 rw[h]
 congr 2
 unfold growR
 rw[Q7l (by omega)]
 have:grow (listT [] t)=t:=Q0b t
 unfold grow at this
 rw[this]
theorem Qo4(id:Int)(t:Tr)(i:Nat)(X:Tr)(hi:i < (listT [] t).length):growR (listT [] (arF id t)) (i+2) X=arF id (growR (listT [] t) i X):=by
 have h:=Qeo id t i X (by omega)
 have hG:=Q2t (listT [] t) i X
 unfold growR
 rw[h,Q3g,List.getD_eq_getElem?_getD,List.getElem?_append_right (by rw[List.length_append,hG];show 2+_<=_;omega)]
 rw[show (listT [] t).length+3 - 1 - (preG id++Q1e (listT [] t) i X).length=0 by rw[List.length_append,hG];show _ - (2+_)=0;omega]
 rfl
theorem Qk8(id:Int)(t:Tr)(i:Nat)(hi:i < (listT [] t).length):Q06 (listT [] (arF id t)) (i+2)=Q06 (listT [] t) i:=by
 have hG:=Q0c (listT [] t)
 unfold Q06
 rw[Qih,List.getD_eq_getElem?_getD,List.getElem?_append_left (by rw[List.length_append,hG];show _ < 2+_;omega),List.getElem?_append_right (by show 2<=_;omega),show i+2 - (preG id).length=i from rfl,←List.getD_eq_getElem?_getD]
theorem many_ar(id:Int)(t:Tr)(j:Int):manyE (listT [] (arF id t)) j=(if j=id+1 then 1 else 0)+manyE (listT [] t) j:=by
 unfold manyE
 rw[Qg0,List.countP_append,List.countP_append,List.countP_map]
 have h1:(List.countP ((fun x:Ex=>x.op==0&&x.n==j)∘shX 2) (listT [] t))=List.countP (fun x:Ex=>x.op==0&&x.n==j) (listT [] t):=rfl
 rw[h1]
 simp only[preF,List.countP_cons,List.countP_nil]
 by_cases h:j=id+1
 ·subst h;simp
 ·have h2:((id+1==j)=false):=by simpa using fun e:id+1=j=>h e.symm
  simp[h,h2]
end Go.CoreX
