/- The evaluator's loop, walked. -/
import Derived.Test.YtkgjldchcbfpnaaGreatDoorF10
import Derived.KernelRfl
import Derived.Test.YtkgjldchcbfpnaaGreatDoorRows
import Derived.Lib.LaidTab
set_option maxRecDepth 10000
set_option linter.unusedVariables false
set_option linter.unusedSimpArgs false
namespace Go.Abs
theorem AStep.less{E:Env}{o:Oper}{fr:Fr}{σ σ1 σ2:St}{x:FV}(h:AStep E o fr σ x σ1)(hn:σ2.n=σ1.n)(hs:∀i o,σ2.get i=some o->σ1.get i=some o):AStep E o fr σ x σ2:=
 fun F w C tmps hi hf next Q hk=>h F w C tmps hi hf next Q fun u w' C' hg hi' hr=>
  hk u w' C' hg ⟨hi'.base,by rw[hn];exact hi'.next,hi'.glob,hi'.prot,fun i o ho=>hi'.obj i o (hs i o ho),fun i j o o' g h1 h2 h3 h4=>hi'.inj i j o o' g (hs i o h1) (hs j o' h2) h3 h4⟩ hr
theorem AStep.weakV{E:Env}{o:Oper}{fr:Fr}{σ σ':St}{x y:FV}(h:AStep E o fr σ x σ')(hw:WkF x y):AStep E o fr σ y σ':=
 fun F w C tmps hi hf next Q hk=>h F w C tmps hi hf next Q fun u w' C' hg hi' hr=>hk u w' C' hg hi' (hw _ _ _ hr)
end Go.Abs
namespace Go.Proofs.YtkgjldchcbfpnaaGreatDoor
open Go Go.Abs Go.CoreX
variable {Γ:List (Nat×List AC)}
def Qbs (cs:List (List AC))(ou:Outer)(r:FV)(ou':Outer):Prop:=
 (cs=[]/\r=.one (.lit (.slice none 0 0))/\ou'=ou)∨∃q,r=.one (.gs 1 cs (.o q))/\ou' q=some (.tok 68 1 cs.length)/\ou q=none/\∀m,m≠q->ou' m=ou m
theorem Qai(hΓ:∀g cs,(g,cs)∈Γ->idsL isO cs)(cs:List (List AC))(hl:cs.length<=1048576)(hi:idsS isO cs)(h1:∀x∈cs,x.length=1)(ou:Outer):AFn Tryz.prog Γ 87 [.one (.sl 1 cs)] ou (Qbs cs ou):=by
 refine AFn.walk 8 tabOk Tryz.func87 rfl (by kernel_rfl) rfl rfl fun hou=>?_
 refine zA ?_
 refine AOps.nilTest rfl rfl rfl rfl Tryz.underlying156 rfl rfl fun b hb=>?_
 cases b with
 |true=>
  have hz:cs=[]:=by have:=hb rfl;simpa using this
  subst hz
  refine zA ?_
  exact AFn.fin' rfl (.refl _) (by simp) hou (.inl ⟨rfl,rfl,rfl⟩)
 |false=>
  refine zA ?_
  refine zS (AStep.buildSlice0 tabOk rfl rfl rfl rfl rfl) ?_
  refine zA ?_
  refine AOps.app tabOk rfl rfl rfl rfl rfl rfl rfl rfl rfl (Base.gs' _ _ _ _ _ (by rfl) (by simp)) (.sl _ _) rfl (by simp;show _ * 16<=_;omega) (by simp;omega) ?_
  refine AOps.cedes [1] rfl (by decide) hou fun q hq=>⟨[(7,.one (.gs 1 ([]++cs) (.o q)))],[],[.tok 68 1 ([]++cs).length],.gs rfl (by simpa using hi) rfl .nil,.nil,.cons rfl rfl .nil,?_⟩
  have hN:=NewO.add hq hou (show (AObj.tok 68 1 ([]++cs).length).ids isO from trivial)
  refine zA ?_
  refine AFn.fin' rfl (WkF.ofEq rfl) ⟨trivial,by simpa using hi⟩ hN.ok (.inr ⟨q,by simp,?_,hN.new q (by simp[keys]),fun m hm=>hN.old m (by simp[keys];exact hm)⟩)
  have:=hN.own (q,_) (List.mem_singleton.2 rfl)
  simpa using this
section
variable {fu:Int}{ac:AC}{fns:List Fun}{G:GP}
def KidC (fu:Int)(ac:AC)(G:GP)(Γ:List (Nat×List AC)):Prop:=∀(ou:Outer)(H:Hm)(nm:Nm2)(m m':Ms)(t:Tr)(e:En)(d:List Vl)(k:List Fm)(ec kc tc0 ec0 vc0 kc0:AC)(dc:List (List AC))(kt:Nat),M0 fu ⟨ac,kt⟩ ou H nm m tc0 ec0 vc0 kc0->ER H nm e ec->VsR H nm d dc->KR H nm k kc->
 allT G.p t->gE G e->gVs G d->d.length<=opdN t->nLf t.op->gFs G k->(G.R->k.length<=1048576)->m.out.length<=1000->kidM fu G.fns m (.mk t e d) k=.ok m'->(G.R->m'.k.length<=1048576)->AFn Tryz.prog Γ 86 [.one (.ptr (.o 0) 0),.one (.box [.box (cTr t),ec,.sl 1 dc,kc])] ou (StQ fu ⟨ac,kt⟩ H nm (.ok m'))
def bndX (fu:Int)(fns:List Fun):Nat->Ms->Bool
 |0,m=>decide (m.k.length<=1048576)
 |g+1,m=>decide (m.k.length<=1048576)&&(match Q0a fu fns m with
  |.next m'=>bndX fu fns g m'
  |_=>true)
theorem bndX_k{fns:List Fun}{g:Nat}{m:Ms}(h:bndX fu fns g m=true):m.k.length<=1048576:=by
 cases g with
 |zero=>simpa[bndX]using h
 |succ g=>simp only[bndX,Bool.and_eq_true,decide_eq_true_eq]at h;exact h.1
def StartC (fu:Int)(ac:AC)(G:GP)(Γ:List (Nat×List AC)):Prop:=∀(ou:Outer)(H:Hm)(nm:Nm2)(m m':Ms)(t:Tr)(e:En)(ec vc kc:AC)(kt:Nat),M0 fu ⟨ac,kt⟩ ou H nm m (.box (cTr t)) ec vc kc->ER H nm e ec->KR H nm m.k kc->
 allT G.p t->gE G e->gFs G m.k->(G.R->m.k.length<=1048576)->m.out.length<=1000->Q0h fu G.fns m t e=.ok m'->(G.R->m'.k.length<=1048576)->AFn Tryz.prog Γ 88 [.one (.ptr (.o 0) 0)] ou (StQ fu ⟨ac,kt⟩ H nm (.ok m'))
theorem VsR.ones{H:Hm}{nm:Nm2}:∀{v:List Vl}{c:List (List AC)},VsR H nm v c->∀x∈c,x.length=1
 |_,_,.nil,x,hx=>by cases hx
 |_,_,.cons v c vs cs hv h,x,hx=>by
  rcases List.mem_cons.1 hx with rfl|hx
  ·rfl
  ·exact VsR.ones h x hx
theorem run_ok(hΓ:∀g cs,(g,cs)∈Γ->idsL isO cs)(hac:ac.ids isO)(hG:GPok G)(hopn:∀t,allT G.p t->opdN t<=1048576)(hkid:KidC fu ac G Γ)(hstart:StartC fu ac G Γ){ou:Outer}{H:Hm}{nm:Nm2}{m0:Ms}{kt0:Nat}(h0:MR fu ⟨ac,kt0⟩ ou H nm m0)(hg0:gM G m0){g0:Nat}{mf:Ms}{vf:Vl}(hgo:goX fu G.fns g0 m0=some (.done mf vf))(hbd:G.R->bndX fu G.fns g0 m0=true)(hol:mf.out.length<=1000)(hfu:0<=fu/\fu<=1000000)(hst0:0<=m0.steps)(hmf:mf.steps<=fu):
  AFn Tryz.prog Γ 50 [.one (.ptr (.o 0) 0)] ou (fun r ou'=>r=.one (.lit (.bool true))/\mf.c=.rt vf/\mf.k=[]/\∃H' nm',MR fu ⟨ac,kt0⟩ ou' H' nm' mf):=by
 refine AFn.walk 70 tabOk Tryz.func50 rfl (by kernel_rfl) rfl rfl fun hou=>?_
 refine zA ?_
 refine ACode.loopR hΓ (α:=Outer×Hm×Nm2×Ms) (fun a=>[(0,.one (.ptr (.o 0) 0))]) (fun a=>⟨0,[],a.1⟩) (fun g a=>MR fu ⟨ac,kt0⟩ a.1 a.2.1 a.2.2.1 a.2.2.2/\gM G a.2.2.2/\goX fu G.fns g a.2.2.2=some (.done mf vf)/\0<=a.2.2.2.steps/\(G.R->bndX fu G.fns g a.2.2.2=true))
  (a0:=(ou,H,nm,m0)) (ρ:=_root_.id) ⟨h0,hg0,hgo,hst0,hbd⟩ (LessR.of rfl zFW (by simp) zLO rfl rfl hou) fun g a ha=>?_
 obtain⟨ou1,H1,nm1,m⟩:=a
 obtain⟨hM,hgm,hgo,hst,hbx⟩:=ha
 dsimp only at hM hgm hgo hst hbx ⊢
 clear hou h0 hg0 hst0 hbd
 obtain⟨kt,tc,ec,vc,kc,hCR,hKR,h0⟩:=hM.ex
 have hou:=h0.w.ok
 have holm:m.out.length<=1000:=by
  rcases Qgp hgo with h|h
  ·exact Nat.le_trans h hol
  ·cases h
 obtain⟨g,rfl⟩:∃g',g=g'+1:=by
  cases g with
  |zero=>cases hgo
  |succ g=>exact⟨g,rfl⟩
 simp only[goX]at hgo
 have hkl:G.R->m.k.length<=1048576:=fun hR=>by have:=hbx hR;simp only[bndX,Bool.and_eq_true,decide_eq_true_eq]at this;exact this.1
 have hbn:G.R->∀m1,Q0a fu G.fns m=.next m1->bndX fu G.fns g m1=true:=fun hR m1 h1=>by have:=hbx hR;simp only[bndX,h1,Bool.and_eq_true]at this;exact this.2
 have hids:=h0.ids
 have hoX:=h0.ouX
 have hki:=hKR.ids
 have hw:=h0.w
 rw[hoX]at hw hou ⊢
 obtain⟨mc,mk,mo,ms,mh⟩:=m
 dsimp only at hgo hst hw hou hids hki holm h0 hkl hbn ⊢
 cases hCR with
 |ev t e ec vc he=>
  have hei:=he.ids
  have hsf:¬ms=fu:=fun h=>by
   simp[Q0a,h]at hgo
  rw[Q38 rfl hsf]at hgo
  have hox:∃m',Q0h fu G.fns ⟨.ev t e,mk,mo,ms+1,mh⟩ t e=.ok m':=by
   cases hx:Q0h fu G.fns ⟨.ev t e,mk,mo,ms+1,mh⟩ t e with
   |ok m'=>exact⟨m',rfl⟩
   |error c=>simp only[hx,rdOf]at hgo;cases hgo
  obtain⟨m',hx⟩:=hox
  simp only[hx,rdOf]at hgo
  have hgm':gM G m':=Q4z hG hgm (by rw[Q38 rfl hsf,hx];rfl)
  have hbn':G.R->bndX fu G.fns g m'=true:=fun hR=>hbn hR m' (by rw[Q38 rfl hsf,hx];rfl)
  have haf:=Q66 (fu:=fu) (fns:=G.fns) hx
  have hfu':m'.steps<=fu:=Int.le_trans (Qd0 hgo (by simp)) hmf
  simp only at haf
  refine zA ?_
  refine zS (AStep.neNilBox Tryz.underlying65 rfl rfl rfl) ?_
  refine zM ?_
  refine zS (AStep.eqNilBox Tryz.underlying65 rfl rfl rfl) ?_
  refine zA ?_
  refine ACode.drawX tabOk 8 [] follows (by kernel_rfl) rfl rfl rfl rfl trivial ?_
  refine zA ?_
  refine ACode.cond rfl (fun hb=>absurd (by simpa using hb) hsf) (fun _=>?_)
  refine zM ?_
  have hN:M0 fu ⟨ac,kt⟩ (St.set ⟨0,[],ouX (mC (.box (cTr t)) ec vc kc mo ms fu ⟨ac,kt⟩) mo.length ou1⟩ (.o 0) (.cells (mC (.box (cTr t)) ec vc kc mo (ms+1) fu ⟨ac,kt⟩))).ou H1 nm1 ⟨.ev t e,mk,mo,ms+1,mh⟩ (.box (cTr t)) ec vc kc:=
   ⟨hids,rfl,hw.put (mc':=mC (.box (cTr t)) ec vc kc mo (ms+1) fu ⟨ac,kt⟩) (by simp[mC,hids,hei,hki,hac]) rfl rfl (fun _=>rfl)⟩
  refine AOps.call1 hΓ rfl rfl rfl rfl rfl rfl rfl ⟨trivial,trivial⟩ hN.w.ok (hstart _ H1 nm1 _ m' t e ec vc kc kt hN he hKR hgm.c.1 hgm.c.2 hgm.k hkl holm hx fun hR=>bndX_k (hbn' hR)) fun r ou2 hq _ how=>?_
  obtain⟨rfl,H',nm',m2,hx2,hmo,hM2⟩:=hq
  cases hx2
  refine zA ?_
  exact cInv ⟨g,(ou2,H',nm',m'),_root_.id,by omega,⟨⟨hM2.ex⟩,hgm',hgo,by dsimp only;omega,hbn'⟩,LessR.of rfl zFW (by simp) zLO rfl rfl how⟩
 |rt v ec vc hv=>
  have hvi:=hv.ids
  cases hKR with
  |nil=>
   have hr:Q0a fu G.fns ⟨.rt v,[],mo,ms,mh⟩=.done ⟨.rt v,[],mo,ms,mh⟩ v:=by simp[Q0a]
   rw[hr]at hgo
   cases hgo
   refine zA ?_
   refine zS (AStep.neNil0 Tryz.underlying65 rfl rfl rfl) ?_
   refine zM ?_
   refine zS (AStep.neNil0 Tryz.underlying69 rfl rfl rfl) ?_
   refine zM ?_
   refine AFn.fin' rfl (WkF.ofEq rfl) (by simp) hou ⟨rfl,rfl,rfl,H1,nm1,⟨⟨kt,nilPE,ec,vc,nilPE,.rt _ ec vc hv,.nil,?_⟩⟩⟩
   rw[←hoX];exact h0
  |cons t e d k ec2 dc kc2 he hd hk=>
   have hei:=he.ids
   have hdi:=hd.ids
   have hk2i:=hk.ids
   have hgf:=hgm.k
   obtain⟨⟨g1,g2,g3,g4,gn⟩,g5⟩:=hgf
   have hdl:=hd.len
   rw[Q47 (f:=.mk t e d) (k:=k) rfl rfl]at hgo
   have hox:∃m',kidM fu G.fns ⟨.rt v,.mk t e d::k,mo,ms,mh⟩ (.mk t e (d++[v])) k=.ok m':=by
    cases hx:kidM fu G.fns ⟨.rt v,.mk t e d::k,mo,ms,mh⟩ (.mk t e (d++[v])) k with
    |ok m'=>exact⟨m',rfl⟩
    |error c=>simp only[Fm.t_mk,Fm.e_mk,Fm.done_mk,hx,rdOf]at hgo;cases hgo
   obtain⟨m',hx⟩:=hox
   simp only[Fm.t_mk,Fm.e_mk,Fm.done_mk,hx,rdOf]at hgo
   have hgm':gM G m':=Q4z hG hgm (by rw[Q47 (fu:=fu) (f:=.mk t e d) (k:=k) rfl rfl];simp only[Fm.t_mk,Fm.e_mk,Fm.done_mk,hx];rfl)
   have hbn':G.R->bndX fu G.fns g m'=true:=fun hR=>hbn hR m' (by rw[Q47 (fu:=fu) (f:=.mk t e d) (k:=k) rfl rfl];simp only[Fm.t_mk,Fm.e_mk,Fm.done_mk,hx];rfl)
   have haf:=(Q2o hx d v (.inl rfl)).ge
   simp only at haf
   have hopt:=hopn t g1
   have hD:VsR H1 nm1 (d++[v]) (dc++[[vc]]):=hd.snoc hv
   have hDi:=hD.ids
   have hcl:=Qai hΓ dc (by omega) hdi hd.ones
   refine zA ?_
   refine zS (AStep.neNil0 Tryz.underlying65 rfl rfl rfl) ?_
   refine zM ?_
   refine zS (AStep.neNilBox Tryz.underlying69 rfl rfl rfl) ?_
   refine zM ?_
   refine zS (AStep.eqNil0 Tryz.underlying65 rfl rfl rfl) ?_
   refine zA ?_
   have hkd:=hkid (ouX (mC nilPE ec vc (.box [.box (cTr t),ec2,.sl 1 dc,kc2]) mo ms fu ⟨ac,kt⟩) mo.length ou1) H1 nm1 ⟨.rt v,.mk t e d::k,mo,ms,mh⟩ m' t e (d++[v]) k ec2 kc2 nilPE ec vc (.box [.box (cTr t),ec2,.sl 1 dc,kc2]) (dc++[[vc]]) kt (by rw[←hoX];exact h0) he hD hk g1 g2 (Q9a g3 ⟨hgm.c,trivial⟩) (by simp;omega) gn g5 (fun hR=>by have:=hkl hR;simp only[List.length_cons]at this;omega) holm hx fun hR=>bndX_k (hbn' hR)
   refine ACode.drawC2 tabOk 26 [13,19,24,25] [(18,.one (.sl 1 [[vc]]))] (fun vs σ=>match vs with
    |[]=>σ=⟨0,[],ouX (mC nilPE ec vc (.box [.box (cTr t),ec2,.sl 1 dc,kc2]) mo ms fu ⟨ac,kt⟩) mo.length ou1⟩
    |[a]=>∃ou2,Qbs dc (ouX (mC nilPE ec vc (.box [.box (cTr t),ec2,.sl 1 dc,kc2]) mo ms fu ⟨ac,kt⟩) mo.length ou1) a (ouX (mC nilPE ec vc (.box [.box (cTr t),ec2,.sl 1 dc,kc2]) mo ms fu ⟨ac,kt⟩) mo.length ou2)/\σ=⟨0,[],ouX (mC nilPE ec vc (.box [.box (cTr t),ec2,.sl 1 dc,kc2]) mo ms fu ⟨ac,kt⟩) mo.length ou2⟩
    |[a,b]=>b=.one (.sl 1 (dc++[[vc]]))/\σ=⟨1,[],ouX (mC nilPE ec vc (.box [.box (cTr t),ec2,.sl 1 dc,kc2]) mo ms fu ⟨ac,kt⟩) mo.length ou1⟩
    |[a,b,c]=>b=.one (.sl 1 (dc++[[vc]]))/\c=.agg [.box (cTr t),ec2,.sl 1 (dc++[[vc]]),kc2]/\σ=⟨1,[],ouX (mC nilPE ec vc (.box [.box (cTr t),ec2,.sl 1 dc,kc2]) mo ms fu ⟨ac,kt⟩) mo.length ou1⟩
    |[a,b,c,g]=>b=.one (.sl 1 (dc++[[vc]]))/\c=.agg [.box (cTr t),ec2,.sl 1 (dc++[[vc]]),kc2]/\g=.one (.box [.box (cTr t),ec2,.sl 1 (dc++[[vc]]),kc2])/\σ=⟨1,[],ouX (mC nilPE ec vc (.box [.box (cTr t),ec2,.sl 1 dc,kc2]) mo ms fu ⟨ac,kt⟩) mo.length ou1⟩
    |_=>False) follows (by kernel_rfl) rfl rfl (by decide) (by kernel_rfl) (by kernel_rfl) rfl rfl ?_ ?_ (by decide) ?_ ?_
   ·intro vs σ h
    match vs with
    |[]=>subst h;rfl
    |[_]=>obtain⟨_,_,rfl⟩:=h;rfl
    |[_,_]=>obtain⟨_,rfl⟩:=h;rfl
    |[_,_,_]=>obtain⟨_,_,rfl⟩:=h;rfl
    |[_,_,_,_]=>obtain⟨_,_,_,rfl⟩:=h;rfl
    |_::_::_::_::_::_=>exact h.elim
   ·intro vs σ h
    exact⟨⟨_,rfl,HStep.auto tabOk rfl⟩,trivial⟩
   ·intro vs σ h i o hi ho
    match vs with
    |[]=>
     subst h;cases hi;cases ho
     refine⟨rfl,.inl (.inr ⟨rfl,Q0y.call hΓ rfl rfl rfl rfl ⟨hdi,trivial⟩ hou (hcl _) fun r ou' hq hr ho=>?_⟩)⟩
     have e:ou'=ouX (mC nilPE ec vc (.box [.box (cTr t),ec2,.sl 1 dc,kc2]) mo ms fu ⟨ac,kt⟩) mo.length ou':=Q7u (by
      rcases hq with ⟨_,_,rfl⟩|⟨q,_,_,h1,h2⟩
      ·rfl
      ·rw[h2 0 (by rintro rfl;cases h1)];rfl)
     exact⟨ou',by rw[←e];exact hq,by rw[←e]⟩
    |[a]=>
     obtain⟨ou2,hq,rfl⟩:=h;cases hi;cases ho
     rcases hq with ⟨rfl,rfl,h1⟩|⟨q,rfl,h1,h2,h3⟩
     ·refine⟨rfl,.inl (.inl ⟨_,_,AStep.less (σ2:=⟨1,[],ouX (mC nilPE ec vc (.box [.box (cTr t),ec2,.sl 1 _,kc2]) mo ms fu ⟨ac,kt⟩) mo.length ou1⟩) (AStep.weakV (AStep.append tabOk rfl rfl rfl rfl rfl rfl (Base.nil _ _) (.sl 1 [[vc]]) rfl (by show (0+1) * 16<=140737488355328;decide) (by simp)) (.one (.gsE (by simp)))) rfl ?_,rfl,rfl⟩)⟩
      intro i o hi
      cases i with
      |l j=>cases hi
      |o j=>exact (congrFun h1 j).trans hi
     ·refine⟨rfl,.inl (.inl ⟨_,_,AStep.less (σ2:=⟨1,[],ouX (mC nilPE ec vc (.box [.box (cTr t),ec2,.sl 1 _,kc2]) mo ms fu ⟨ac,kt⟩) mo.length ou1⟩) (AStep.weakV (AStep.append tabOk rfl rfl rfl rfl rfl rfl (Base.gs' _ _ _ _ _ h1 rfl) (.sl 1 [[vc]]) rfl (by simp;show _ * 16<=_;omega) (by simp;omega)) (.one (.gsE (by simp)))) rfl ?_,rfl,rfl⟩)⟩
      intro i o hi
      cases i with
      |l j=>cases hi
      |o j=>
       have hjq:j≠q:=by rintro rfl;have h5:=hi;simp only[St.get]at h5;rw[h2]at h5;cases h5
       have h4:=h3 j hjq
       show (bif Nat.beq j q then some AObj.dead else _)=some o
       rw[Q08 hjq]
       exact h4.trans hi
    |[_,_]=>obtain⟨rfl,rfl⟩:=h;cases hi;cases ho;exact⟨rfl,.inl (.inl ⟨_,_,AStep.ofOp tabOk rfl,rfl,rfl,rfl⟩)⟩
    |[_,_,_]=>obtain⟨rfl,rfl,rfl⟩:=h;cases hi;cases ho;exact⟨rfl,.inl (.inl ⟨_,_,AStep.boxI rfl rfl,rfl,rfl,rfl,rfl⟩)⟩
    |_::_::_::_::_=>cases hi
   ·intro vs σ hl h
    match vs with
    |[a,_,_,_]=>
     obtain⟨rfl,rfl,rfl,rfl⟩:=h
     refine AOps.call1 hΓ rfl rfl rfl rfl rfl rfl rfl ⟨trivial,⟨by simp,hei,hDi,hk2i,trivial⟩,trivial⟩ hou hkd fun r ou2 hq _ how=>?_
     obtain⟨rfl,H',nm',m2,hx2,hmo,hM2⟩:=hq
     cases hx2
     refine zA ?_
     exact cInv ⟨g,(ou2,H',nm',m'),_root_.id,by omega,⟨⟨hM2.ex⟩,hgm',hgo,by dsimp only;omega,hbn'⟩,LessR.of rfl zFW (by simp) zLO rfl rfl how⟩
    |[]|[_]|[_,_]|[_,_,_]=>cases hl
    |_::_::_::_::_::_=>exact h.elim
end
structure FragL (hi:Bool)(l:Lab):Prop where
 sh:shpQ l
 op:0<=l.op/\l.op<=8∨hi=true/\(l.op=12∨l.op=13)
 pr:l.op=8->l.n=0∨l.n=1∨l.n=2∨l.n=5∨l.n=6∨l.n=7
 bl:l.binds.length<=1048576
 al:l.alts.length<=1048576
 ab:∀a∈l.alts,a.binds.length<=1048576
 kl:l.ops.length<=1048576
 wd:l.op=1->inW l.n
 rc:l.op=5->∀i,i < l.binds.length->l.ops[i]?=some 2
def G1 (hi:Bool):GP:={ p:=FragL hi,S:=fun _=>True,W:=inW,fns:=[],R:=hi=true }
theorem Qbx{a b:Int}(ha:inW a)(hb:inW b):inW (a.tmod b):=by
 have h1:(a.tmod b).natAbs<=a.natAbs:=by
  rw[Int.natAbs_tmod];exact Nat.mod_le _ _
 unfold inW at *
 have h2:-1073741824<=a.tmod b:=by
  rcases Int.le_total 0 a with h|h
  ·have:=Int.tmod_nonneg b h;omega
  ·omega
 have h3:a.tmod b<=1073741823:=by
  rcases Int.le_total 0 a with h|h
  ·omega
  ·have h4:a.tmod b=-((-a).tmod b):=by rw[Int.neg_tmod];omega
   have:=Int.tmod_nonneg b (show 0<=-a by omega)
   omega
 exact⟨h2,h3⟩
theorem G1ok(hi:Bool):GPok (G1 hi) where
 sh:=fun l h=>h.sh
 bnd:=fun _ _ _ _=>trivial
 wd:=fun l h h1=>h.wd h1
 rc:=fun l h h1=>h.rc h1
 wr:=fun n=>by show inW (wrapW n);unfold inW wrapW;omega
 wl:=fun n h0 h1=>by show inW n;unfold inW;omega
 wm:=fun a b ha hb=>Qbx ha hb
 fn:=fun f hf=>by cases hf
 cl:=fun l h ho=>by
  exfalso
  rcases h.op with h1|⟨_,h1⟩ <;> omega
 rs:=fun l h ho=>by
  rcases h.op with h1|⟨h1,_⟩
  ·omega
  ·exact h1
section
variable {fu:Int}{ac:AC}
theorem list1{α:Type}{l:List α}(h:l.length=1):∃a,l=[a]:=by
 match l,h with
 |[a],_=>exact⟨a,rfl⟩
theorem list2{α:Type}{l:List α}(h:l.length=2):∃a b,l=[a,b]:=by
 match l,h with
 |[a,b],_=>exact⟨a,b,rfl⟩
theorem Qeo{v:Vl}{n:Int}(h:wordV v=.ok n):v=.word n:=by
 cases v with
 |word m=>cases h;rfl
 |_=>cases h
theorem Qdk{m m':Ms}{n:Int}{a b v:Vl}(hn:n=0∨n=1∨n=2∨n=5∨n=6)(h:primM fu m n [a,b]=.ok (m',v)):∃x y,a=.word x/\b=.word y:=by
 cases hx:wordV a with
 |error c=>
  exfalso
  rcases hn with rfl|rfl|rfl|rfl|rfl <;> simp[primM,hx,bind,Except.bind]at h
 |ok x=>
  cases hy:wordV b with
  |error c=>
   exfalso
   rcases hn with rfl|rfl|rfl|rfl|rfl <;> simp[primM,hx,hy,bind,Except.bind]at h
  |ok y=>exact⟨x,y,Qeo hx,Qeo hy⟩
end
theorem Qgm(a b c d:Value)(w:World):CallsD Tryz.prog 49 #[a,b,c,d] .returning w fun e u' w'=>(∃v,e=.returned v)/\u'=.returning/\w'=w:=by
 refine callsD_of_wpS Tryz.func49 rfl fun c₀ cs hu=>?_
 apply wpS_seq
 apply wpS_region
 simp[wpOpsS,go_sem,recoverD,hu,Tryz.ntmps49,Exit.thenS]
 apply wpS_seq
 apply wpS_region
 simp[wpOpsS,go_sem,recoverD,hu,Exit.thenS]
 refine wpS_cond (t:=false) (by simp[Act.eval,Array.replicate]) ?_
 simp only[Bool.false_eq_true,if_false]
 refine wpS_of_wp (wp_skip ?_)
 cases c₀
 simp_all[bodyPostS,results,Tryz.results49]
section
variable {fu:Int}{ac:AC}{G:GP}
theorem Qhm(hΓ:∀g cs,(g,cs)∈Γ->idsL isO cs){ou:Outer}{mf:Ms}{vf:Vl}{kt0:Nat}
  (hrun:AFn Tryz.prog Γ 50 [.one (.ptr (.o 0) 0)] ou (fun r ou'=>r=.one (.lit (.bool true))/\mf.c=.rt vf/\mf.k=[]/\∃H' nm',MR fu ⟨ac,kt0⟩ ou' H' nm' mf)):
  AFn Tryz.prog Γ 23 [.one (.ptr (.o 0) 0)] ou (fun r ou'=>r=.tup [.agg [.sl 1 (mf.out.map cI),int 0,int (lastV vf)],.one (int mf.steps),.one (int 0)]):=by
 refine AFn.ofDefer (gd:=49) (d5:=5) (first:=[]) (caps:=[.ptr (.l 0) 0,.ptr (.l 1) 0,.ptr (.l 2) 0,.ptr (.l 3) 0]) (fr1:=[(4,.one (.ptr (.l 3) 0)),(3,.one (.ptr (.l 2) 0)),(2,.one (.ptr (.l 1) 0)),(1,.one (.ptr (.l 0) 0)),(0,.one (.ptr (.o 0) 0))])
  (σ1 := ⟨4, [(3, .cells [int 0]), (2, .cells [int 0]), (1, .cells [.lit (.slice none 0 0), int 0, int 0]), (0, .cells [.ptr (.o 0) 0])], ou⟩)
  tabOk Tryz.func23 rfl (by kernel_rfl) (by decide) ?_ rfl rfl (by decide) (AStep.ofOp tabOk rfl) rfl rfl rfl ?_ ?_
 ·intro hou
  refine zA ?_
  exact⟨rfl,rfl,rfl⟩
 ·intro us w
  refine⟨?_,fun hs=>?_⟩
  ·simp[callFunc,Tryz.func49,Tryz.f49]
  ·obtain⟨l⟩:=us
   match l,hs with
   |[a,b,c,d],_=>exact Qgm a b c d w
 ·intro hou ds
  refine zA ?_
  refine AOps.call1 hΓ rfl rfl rfl rfl rfl rfl rfl ⟨trivial,trivial⟩ hou hrun fun r ou' hq _ how=>?_
  obtain⟨rfl,hc,hk,H',nm',hM⟩:=hq
  obtain⟨kt,tc,ec,vc,kc,hCR,hKR,h0⟩:=hM.ex
  rw[hc]at hCR
  cases hCR with
  |rt _ ec vc hv=>
   have hvi:=hv.ids
   have hoX:=h0.ouX
   rw[hoX]at how ⊢
   refine zA ?_
   refine ACode.drawSt tabOk 15 14 [(8,.one (int (lastV vf)))] _ follows (by kernel_rfl) rfl rfl (by kernel_rfl) rfl ?_ rfl rfl rfl rfl ?_ ?_ (AStep.ofStore tabOk rfl) ?_
   ·rfl
   ·exact⟨⟨_,rfl,AStep.callPure hΓ rfl rfl rfl ⟨hvi,trivial⟩ how (Q91 hv)⟩,trivial⟩
   ·exact⟨⟨_,rfl,AStep.callPure hΓ rfl rfl rfl ⟨hvi,trivial⟩ how (Q91 hv)⟩,trivial⟩
   refine zA ?_
   exact AFn.fin' rfl (WkF.tup (.cons (.agg (.cons (.gsE rfl) (.cons (.refl _) (.cons (.refl _) .nil)))) (.cons (.refl _) (.cons (.refl _) .nil)))) (by simp) how rfl
end
abbrev nilS:AC:=.lit (.slice none 0 0)
theorem slot_ok{g:Int}{l:List (List AC)}{n:Nat}{y:AC}(hl:l[n]?=some [y])(hy:y.ids isO):APure Tryz.prog Γ 112 [.one (iB tCap [int g,.sl 1 l]),.one (int n)] (.one y):=by
 have hlt:n < l.length:=(List.getElem?_eq_some_iff.1 hl).1
 intro ou
 refine AFn.walk 32 tabOk Tryz.func112 rfl (by kernel_rfl) rfl rfl fun hou=>?_
 refine zA ?_
 refine zS (AStep.assertYes Q3h rfl rfl) ?_
 refine zM ?_
 refine ACode.cond rfl (fun hb=>absurd hb (by simp;omega)) (fun _=>?_)
 refine zA ?_
 refine zS (zIA rfl rfl rfl (by omega) hl) ?_
 refine zA ?_
 exact APure.fin rfl (WkF.ofEq rfl) hy hou rfl
section
variable {fu:Int}{fc:FcT}{fns:List Fun}{ou:Outer}{H:Hm}{nm:Nm2}{m m1:Ms}{v:Vl}{tc ec vc kc:AC}{t:Tr}{e:En}{d:List Vl}{k:List Fm}{dc:List (List AC)}{tc0 ec0 vc0 kc0:AC}
theorem Qco(hΓ:∀g cs,(g,cs)∈Γ->idsL isO cs)(h0:M0 fu fc ou H nm m tc0 ec0 vc0 kc0)(hfc:fc.ids isO)(he:ER H nm e ec){g:Int}{sl:List Vl}{c:AC}(hd:VR H nm (.cap g sl) c)(hk:KR H nm k kc)(hkl:t.kids.length=1)(h16:t.op=16){n:Nat}(hn:t.n=(n:Int))(hv:sl[n]?=some v):
  AFn Tryz.prog Γ 86 [.one (.ptr (.o 0) 0),.one (.box [.box (cTr t),ec,.sl 1 [[c]],kc])] ou (StQ fu fc H nm (.ok { m with c:=.rt v,k:=k })):=by
 have hN:=Q3a h0 hk hfc
 have hei:=he.ids
 have hdi:=hd.ids
 have hki:=hk.ids
 have hw:=hN.w
 have hoX:=h0.ouX
 rw[hoX]
 generalize hmc:ou=ou0 at hN hw
 clear hoX
 obtain⟨g',sl',l,e1,rfl,hsl⟩:∃g' sl' l,Vl.cap g sl=.cap g' sl'/\c=iB tCap [int g',.sl 1 l]/\VsR H nm sl' l:=by
  rcases hd.isCap with ⟨n,fs,cs,h1,h2,h3⟩|⟨h1,_⟩
  ·exact⟨n,fs,cs,h1,h2,h3⟩
  ·exact absurd rfl (h1 g sl)
 cases e1
 obtain⟨y,hy,hvy⟩:=hsl.get hv
 have hyi:=hvy.ids
 have hll:=hsl.len
 obtain⟨o,tn,b,ks,al⟩:=t
 simp only[Tr.op,Tr.n,Tr.kids]at h16 hn hkl
 subst h16;subst hn
 have hop:opdN (.mk 16 (n:Int) b ks al)=1:=by show ks.length=1;exact hkl
 have hs:=slot_ok (Γ:=Γ) (g:=g) hy hyi
 refine AFn.walk 262 tabOk Tryz.func86 rfl (by kernel_rfl) rfl rfl fun hou=>?_
 refine zA ?_
 refine ACode.drawX tabOk 10 [(9,.one (int (opdN (.mk 16 (n:Int) b ks al))))] follows (by kernel_rfl) rfl rfl rfl rfl ?_ ?_
 ·exact⟨⟨_,rfl,AStep.callPure hΓ rfl rfl rfl (by simp[idsF]) hou (Q2r _)⟩,trivial⟩
 refine zA ?_
 refine ACode.cond rfl (fun hb=>absurd hb (by simp[hop])) (fun hb=>?_)
 refine zA ?_
 refine ACode.stEq (σ':=⟨0,[],ouX (mC tc0 ec0 vc0 kc m.out m.steps fu fc) m.out.length ou0⟩) (setX _ _ _ _) ?_
 refine zA ?_
 refine ACode.drawCS tabOk 19 15 16 17 18 (.one (.ptr (.o 0) 0)) (.one (.ptr (.o 0) 0)) [(6,.one (.box [iB tCap [int g,.sl 1 l]]))]
  (fun r σ=>r=.one y/\σ=⟨0,[],ouX (mC tc0 ec0 vc0 kc m.out m.steps fu fc) m.out.length ou0⟩)
  (fun r σ=>r=.one y/\σ=⟨0,[],ouX (mC nilPE ec0 vc0 kc m.out m.steps fu fc) m.out.length ou0⟩)
  follows (by kernel_rfl) rfl rfl (by decide) (by kernel_rfl) (by kernel_rfl) rfl rfl rfl rfl rfl rfl rfl ?_ ?_ ?_ ?_ ?_ ?_ ?_ ?_ ?_ ?_
 ·rintro r σ ⟨rfl,rfl⟩;rfl
 ·rintro r σ ⟨rfl,rfl⟩;rfl
 ·exact⟨⟨_,rfl,zIA rfl rfl rfl (by decide) rfl⟩,trivial⟩
 ·rintro r σ ⟨rfl,rfl⟩
  exact⟨⟨_,rfl,zIA rfl rfl rfl (by decide) rfl⟩,trivial⟩
 ·rintro r σ ⟨rfl,rfl⟩
  exact⟨⟨_,rfl,zIA rfl rfl rfl (by decide) rfl⟩,trivial⟩
 ·refine Q0u.ofR (Q0y.call hΓ rfl rfl rfl rfl ⟨hdi,trivial,trivial⟩ hw.ok (hs _) fun r ou' hq hr ho=>?_)
  obtain⟨rfl,rfl⟩:=hq
  exact⟨rfl,rfl⟩
 ·rintro r σ ⟨rfl,rfl⟩;exact AStep.ofOp tabOk rfl
 ·rintro r σ ⟨rfl,rfl⟩;exact AStep.ofOp tabOk rfl
 ·rintro r σ ⟨rfl,rfl⟩;exact⟨_,⟨rfl,setX _ _ _ _⟩,AStep.ofStore tabOk rfl⟩
 ·rintro r σ ⟨rfl,rfl⟩
  refine zA ?_
  exact StQ.fin rfl rfl (.refl _ _) (MR.ofRt hw hvy hk h0.ids.2.1 hfc rfl rfl (fun _=>rfl))
theorem Qcs(hΓ:∀g cs,(g,cs)∈Γ->idsL isO cs)(h0:M0 fu fc ou H nm m tc0 ec0 vc0 kc0)(hfc:fc.ids isO)(he:ER H nm e ec)(hd:VsR H nm d dc)(hk:KR H nm k kc)(hl:d.length=t.kids.length)(h15:t.op=15):
  AFn Tryz.prog Γ 86 [.one (.ptr (.o 0) 0),.one (.box [.box (cTr t),ec,.sl 1 dc,kc])] ou (StQ fu fc H nm (.ok { m with c:=.rt (.cap t.n d),k:=k })):=by
 have hN:=Q3a h0 hk hfc
 have hei:=he.ids
 have hdi:=hd.ids
 have hki:=hk.ids
 have hdl:=hd.len
 have hw:=hN.w
 have hoX:=h0.ouX
 rw[hoX]
 generalize hmc:ou=ou0 at hN hw
 clear hoX
 obtain⟨o,n,b,ks,al⟩:=t
 simp only[Tr.op,Tr.kids]at h15 hl
 subst h15
 have hop:opdN (.mk 15 n b ks al)=ks.length:=rfl
 refine AFn.walk 262 tabOk Tryz.func86 rfl (by kernel_rfl) rfl rfl fun hou=>?_
 refine zA ?_
 refine ACode.drawX tabOk 10 [(9,.one (int (opdN (.mk 15 n b ks al))))] follows (by kernel_rfl) rfl rfl rfl rfl ?_ ?_
 ·exact⟨⟨_,rfl,AStep.callPure hΓ rfl rfl rfl (by simp[idsF]) hou (Q2r _)⟩,trivial⟩
 refine zA ?_
 refine ACode.cond rfl (fun hb=>absurd hb (by simp[hop,hdl,hl])) (fun hb=>?_)
 refine zA ?_
 refine ACode.stEq (σ':=⟨0,[],ouX (mC tc0 ec0 vc0 kc m.out m.steps fu fc) m.out.length ou0⟩) (setX _ _ _ _) ?_
 refine zA ?_
 refine ACode.drawSt tabOk 19 18 [(14,.one (.box [int n,.sl 1 dc])),(15,.one (iB tCap [int n,.sl 1 dc]))] _ follows (by kernel_rfl) rfl rfl (by kernel_rfl) rfl ?_ rfl rfl rfl rfl ?_ ?_ (AStep.ofStore tabOk rfl) ?_
 ·rfl
 ·exact⟨⟨_,rfl,AStep.boxI rfl rfl⟩,⟨_,rfl,AStep.mkIfc Q3h rfl rfl⟩,trivial⟩
 ·exact⟨⟨_,rfl,AStep.boxI rfl rfl⟩,⟨_,rfl,AStep.mkIfc Q3h rfl rfl⟩,trivial⟩
 refine zA ?_
 exact StQ.fin rfl rfl (.refl _ _) (MR.ofRt hw (.cap n d dc hd) hk h0.ids.2.1 hfc rfl rfl (fun _=>rfl))
end
abbrev VA:={c:AC // c.ids isO}
def cV (v:VA):List AC:=[v.1]
theorem Qgg{p:Abs.Id->Prop}(hp:∀i,isO i->p i)(l:List VA):idsS p (l.map cV):=Q1r (f:=cV) (fun v=>⟨AC.ids_mono hp v.1 v.2,trivial⟩) l
theorem Qg7(k:Nat):∀i,isO i->inL k i:=fun i hi=>by cases i with|l k=>exact hi.elim|o k=>trivial
@[simp] theorem ids_cV_l (k:Nat) (l:List VA):idsS (inL k) (l.map cV):=Qgg (Qg7 k) _
@[simp] theorem Qil (l:List VA):idsS isO (l.map cV):=Qgg (fun _ h=>h) _
def GrwQV (ou:Outer)(r:FV)(ou':Outer):Prop:=
 (r=.one (.lit (.slice none 0 0))/\ou'=ou)∨∃k cap,ou k=none/\r=.one (.arr (.o k) 1 0 0 cap)/\ou'=updO ou k (.cells (vec 1 [] cap))
theorem Qhf(n:Nat)(hn:n<=1048576)(ou:Outer):AFn Tryz.prog Γ 163 [.one (.lit (.slice none 0 0)),.one (int n)] ou (GrwQV ou):=by
 refine AFn.walk 27 tabOk Tryz.func163 rfl (by kernel_rfl) rfl rfl fun hou=>?_
 refine zA ?_
 refine zS (AStep.capNil tabOk rfl rfl rfl rfl) ?_
 refine zM ?_
 refine ACode.cond rfl (fun hb=>?_) (fun hb=>?_)
 ·have hn0:0 < n:=by simp at hb;omega
  refine zA ?_
  refine zS (AStep.capNil tabOk rfl rfl rfl rfl) ?_
  refine zA ?_
  refine zS (AStep.sliceNilTo tabOk rfl rfl rfl rfl rfl rfl) ?_
  refine zA ?_
  refine AOps.wk 21 rfl (y:=.one (int n)) (.ofEq (by simp)) ?_
  refine AOps.stepR rfl rfl rfl (Q0y.appZeros0 (m:=n) (s:=1) tabOk rfl rfl rfl rfl rfl Tryz.underlying3 rfl rfl hn0 (by show _ * 16<=_;omega) (by omega)) ?_
  rintro v σ' ⟨cap,hcap,rfl,rfl⟩
  refine zA ?_
  refine zS (AStep.sliceOwn (a:=0) (b:=0) (c:=cap) tabOk rfl rfl rfl rfl rfl rfl rfl ⟨.i64,rfl⟩ rfl (fun h=>by cases h) (by omega) (by omega) (by omega)) ?_
  rw[show (AC.arr (.l 0) 1 (if cap=0 then 0 else 0) (0 - 0) (cap - 0))=.arr (.l 0) 1 0 0 cap by simp]
  refine AOps.cede 0 (show 0 < 1 by omega) fun k hk=>⟨[(25,.one (.arr (.o k) 1 0 0 cap))],⟨1,[],updO ou k (.cells (vec 1 [] cap))⟩,⟨CedFr.get (.cons rfl rfl .nil),rfl,fun i x hx=>?_⟩,?_⟩
  ·have hk:ou k=none:=hk
   cases i with
   |l m=>cases hx
   |o m=>
    have hx':updO ou k (.cells (vec 1 [] cap)) m=some x:=hx
    by_cases e:k=m
    ·subst e;rw[Q03]at hx';cases hx'
     exact⟨.l 0,_,rfl,rfl,(AObj.sub_o _ (Q07 _ (by simp))).symm⟩
    ·rw[Q05 _ e]at hx'
     exact⟨.o m,x,hx',rfl,(AObj.sub_o x (hou m x hx')).symm⟩
  refine zA ?_
  exact AFn.fin' rfl (.refl _) (by simp) (Q0i hou (Q07 _ (by simp))) (.inr ⟨k,cap,hk,rfl,rfl⟩)
 ·refine zA ?_
  exact AFn.fin' rfl (.refl _) (by simp) hou (.inl ⟨rfl,rfl⟩)
def cLV (l:List VA):List AC:=[.sl 1 (l.map cV)]
theorem Qgh{p:Abs.Id->Prop}(hp:∀i,isO i->p i)(ll:List (List VA)):idsS p (ll.map cLV):=Q1r (f:=cLV) (fun l=>⟨Qgg hp l,trivial⟩) ll
@[simp] theorem ids_cL_lV (k:Nat) (ll:List (List VA)):idsS (inL k) (ll.map cLV):=Qgh (Qg7 k) ll
@[simp] theorem ids_cL_oV (ll:List (List VA)):idsS isO (ll.map cLV):=Qgh (fun _ h=>h) ll
def catV (ll:List (List VA))(i:Nat):List VA:=(ll.take i).flatten
theorem Qal{ll:List (List VA)}{i:Nat}{l:List VA}(h:ll[i]?=some l):catV ll (i+1)=catV ll i++l:=by unfold catV;rw[Q1w h];simp
theorem Qam(ll:List (List VA)):catV ll ll.length=ll.flatten:=by unfold catV;rw[List.take_length]
theorem cat_leV(ll:List (List VA))(j:Nat):(catV ll j).length<=ll.flatten.length:=by
 have:=congrArg (fun z=>z.flatten.length) (List.take_append_drop j ll)
 simp only[List.flatten_append,List.length_append]at this
 unfold catV;omega
theorem Qej(hΓ:∀g cs,(g,cs)∈Γ->idsL isO cs)(ll:List (List VA))(hl:ll.length<=1048576)(hs:ll.flatten.length<=1048576):
  APure Tryz.prog Γ 134 [.one (.sl 1 (ll.map cLV))] (.one (.sl 1 (ll.flatten.map cV))):=by
 intro ou
 have hpre:=cat_leV ll
 refine AFn.walk 36 tabOk Tryz.func134 rfl (by kernel_rfl) rfl rfl fun hou=>?_
 refine zA ?_
 refine ACode.loopR hΓ (α:=Nat) (fun j=>[(11,.one (int j)),(10,.one (int (ll.map cLV).length)),(9,.one (.sl 1 (ll.map cLV))),(3,.one (int (catV ll j).length)),(0,.one (.sl 1 (ll.map cLV)))])
  (fun j=>⟨0,[],ou⟩) (fun m j=>j<=ll.length/\m=ll.length - j) (a0:=0) (ρ:=id) ⟨by omega,rfl⟩ (LessR.of rfl zFS (by simp) zLO rfl rfl hou) fun m j hj=>?_
 obtain⟨hjl,rfl⟩:=hj
 refine zA ?_
 refine ACode.cond rfl (fun hb=>?_) (fun hb=>?_)
 ·have hlt:j < ll.length:=by simpa using hb
  clear hb
  obtain⟨l,hx⟩:=Q01 hlt
  have hsn:(catV ll (j+1))=(catV ll j)++l:=Qal hx
  have hle:=hpre (j+1)
  rw[hsn,List.length_append]at hle
  refine zA ?_
  refine zS (zIA rfl rfl rfl (by omega) (Q06 hx)) ?_
  refine zM ?_
  exact cInv ⟨ll.length - (j+1),j+1,id,by omega,⟨by omega,rfl⟩,LessR.of rfl (FrSub.cons rfl (.ofEq rfl) (FrSub.cons rfl (.ofEq rfl) (FrSub.consP rfl (.ofEq rfl) (by simp) (FrSub.cons rfl (.ofEq (by simp[hsn,FV.ren,AC.ren])) (FrSub.consP rfl (.ofEq rfl) (by simp) .nil))))) (by simp) zLO rfl rfl hou⟩
 ·have hlt:j=ll.length:=by simp at hb;omega
  subst hlt
  rw[Qam]
  refine zA ?_
  refine AOps.cutN 0 rfl hΓ (α:=Option Nat) (fun oc=>[(6,.one (oaC 0 1 [] oc)),(0,.one (.sl 1 (ll.map cLV)))]) (fun oc=>⟨1,[(0,oaO 1 [] oc)],ou⟩) (fun oc=>coO ([]:List (List AC)) oc) ?_ fun oc hoc=>?_
  ·dsimp only [List.take_zero,List.nil_append]
   refine AOps.call1 hΓ rfl rfl rfl rfl rfl rfl rfl (by exact⟨trivial,trivial,trivial⟩) hou (Qhf ll.flatten.length hs ou) fun r ou' hq _ hov=>?_
   rcases hq with ⟨rfl,rfl⟩|⟨k,cap,hk,rfl,rfl⟩
   ·refine AOps.ghost ?_
    refine zA ?_
    exact cInv ⟨none,id,rfl,LessR.of rfl zFS (by simp) zLO rfl rfl hou⟩
   ·refine AOps.adopt hk (Q07 _ (by simp)) ?_
    refine AOps.wk 24 rfl (y:=.one (oaC 0 1 [] (some cap))) (.ofEq (by simp[FV.sub,AC.sub,toL,oaC])) ?_
    refine zA ?_
    exact cInv ⟨some cap,id,by simp[coO],LessR.of rfl zFS (by simp) (LoSub.cons rfl (show AObj.cells (vec 1 [] cap)=AObj.ren id (oaO 1 [] (some cap))from (Qfb id 1 [] (some cap) fun _=>Qb5 (by simp)).symm) rfl (Qb6 (by simp)) .nil) rfl rfl hou⟩
  refine zA ?_
  refine ACode.loopR hΓ (α:=Nat×Option Nat) (fun c=>[(27,.one (int c.1)),(26,.one (int (ll.map cLV).length)),(25,.one (.sl 1 (ll.map cLV))),(6,.one (oaC 0 1 ((catV ll c.1).map cV) c.2))])
   (fun c=>⟨1,[(0,oaO 1 ((catV ll c.1).map cV) c.2)],ou⟩) (fun m c=>c.1<=ll.length/\coO ((catV ll c.1).map cV) c.2/\m=ll.length - c.1) (a0:=(0,oc)) (ρ:=id) ⟨by omega,hoc,rfl⟩ (LessR.of rfl ?_ (by simp) zLO rfl rfl hou) fun m c hc=>?_
  ·(repeat' first|exact FrSub.nil|refine zfc ?_|refine zfo ?_|refine zfp ?_)
  obtain⟨i,oc⟩:=c
  obtain⟨hil,hco,rfl⟩:=hc
  dsimp only at hil hco
  refine zA ?_
  refine ACode.cond rfl (fun hb2=>?_) (fun hb2=>?_)
  ·have hlt:i < ll.length:=by simpa using hb2
   clear hb2
   obtain⟨l,hx⟩:=Q01 hlt
   have hsn:(catV ll (i+1))=(catV ll i)++l:=Qal hx
   have hle:=hpre (i+1)
   rw[hsn,List.length_append]at hle
   refine zA ?_
   refine zS (zIA rfl rfl rfl (by omega) (Q06 hx)) ?_
   refine zA ?_
   by_cases hxe:l=[]
   ·subst hxe
    rw[List.append_nil]at hsn
    refine AOps.appG0 (k:=0) (s:=1) (es:=(catV ll i).map cV) (oc:=oc) tabOk rfl rfl rfl rfl rfl rfl rfl rfl rfl ?_
    refine zM ?_
    exact cInv ⟨ll.length - (i+1),(i+1,oc),id,by omega,⟨by omega,by dsimp only;rw[hsn];exact hco,rfl⟩,LessR.of rfl (by dsimp only;rw[hsn];(repeat' first|exact FrSub.nil|refine zfc ?_|refine zfo ?_|refine zfp ?_)) (by simp) (by dsimp only;rw[hsn];repeat' first|exact LoSub.nil|refine zlc ?_|refine zld ?_ ?_|rfl) rfl rfl hou⟩
   ·refine AOps.appG (k:=0) (s:=1) (es:=(catV ll i).map cV) (oc:=oc) (news:=l.map cV) tabOk rfl rfl rfl rfl rfl rfl rfl rfl rfl rfl hco (fun y hy=>by obtain⟨z,_,rfl⟩:=List.mem_map.1 hy;rfl) (.sl 1 _) (by simpa using hxe) rfl (by simp only[List.length_map];show (_+_) * 16<=_;omega) (by simp only[List.length_map];omega) fun cap hc=>?_
    rw[←List.map_append,←hsn]at hc ⊢
    refine zM ?_
    exact cInv ⟨ll.length - (i+1),(i+1,some cap),fun _=>1,by omega,⟨by omega,hc,rfl⟩,LessR.of rfl zFS (by simp) zLO rfl rfl hou⟩
  ·have hlt:i=ll.length:=by simp at hb2;omega
   subst hlt
   have hfu:=Qam ll
   repeat ((fail_if_success ((with_reducible refine oj ?_);refine AOps.atDst 35 rfl ?_));first|refine zO ?_)
   refine AOps.freezeG 0 6 rfl hco (fun y hy=>by obtain⟨z,_,rfl⟩:=List.mem_map.1 hy;rfl) rfl ?_
   refine zA ?_
   exact APure.fin rfl (WkF.ofEq (by rw[hfu])) (by rw[←hfu];simp) hou rfl
def cFun (f:Fun):List AC:=[.sl 1 (f.params.map cI),.box (cTr f.body)]
theorem Q49(p:Abs.Id->Prop)(l:List Fun):idsS p (l.map cFun):=Q1r (f:=cFun) (fun f=>by simp[cFun]) l
@[simp] theorem ids_cFun_l (k:Nat) (l:List Fun):idsS (inL k) (l.map cFun):=Q49 _ l
@[simp] theorem Q84 (l:List Fun):idsS isO (l.map cFun):=Q49 _ l
section
variable {fu:Int}{kt:Nat}{fns:List Fun}{ou:Outer}{H:Hm}{nm:Nm2}{m:Ms}{v:Vl}{tc ec vc kc:AC}{t:Tr}{e:En}{d:List Vl}{k:List Fm}{dc:List (List AC)}{tc0 ec0 vc0 kc0:AC}
theorem kid_fn(hΓ:∀g cs,(g,cs)∈Γ->idsL isO cs)(h0:M0 fu ⟨.sl 2 (fns.map cFun),kt⟩ ou H nm m tc0 ec0 vc0 kc0)(he:ER H nm e ec)(hd:VsR H nm d dc)(hk:KR H nm k kc)(hl:d.length=t.kids.length)(h14:t.op=14){i:Nat}(hn:t.n=(i:Int)){f:Fun}(hf:fns[i]?=some f)(hpl:f.params.length=d.length)(h20:f.params.length<=1048576):
  AFn Tryz.prog Γ 86 [.one (.ptr (.o 0) 0),.one (.box [.box (cTr t),ec,.sl 1 dc,kc])] ou (StQ fu ⟨.sl 2 (fns.map cFun),kt⟩ H nm (.ok { m with c:=.ev f.body (allE .nil f.params d),k:=k })):=by
 have hfc:(FcT.mk (.sl 2 (fns.map cFun)) kt).ids isO:=by show idsS isO _;simp
 have hN:=Q3a h0 hk hfc
 have hei:=he.ids
 have hdi:=hd.ids
 have hki:=hk.ids
 have hdl:=hd.len
 have hw:=hN.w
 have hoX:=h0.ouX
 rw[hoX]
 generalize hmc:ou=ou0 at hN hw
 clear hoX
 obtain⟨o,n,b,ks,al⟩:=t
 simp only[Tr.op,Tr.n,Tr.kids]at h14 hn hl
 subst h14;subst hn
 have hop:opdN (.mk 14 (i:Int) b ks al)=ks.length:=rfl
 have hsc:(fns.map cFun)[i]?=some (cFun f):=by rw[List.getElem?_map,hf];rfl
 refine AFn.walk 262 tabOk Tryz.func86 rfl (by kernel_rfl) rfl rfl fun hou=>?_
 refine zA ?_
 refine ACode.drawX tabOk 10 [(9,.one (int (opdN (.mk 14 (i:Int) b ks al))))] follows (by kernel_rfl) rfl rfl rfl rfl ?_ ?_
 ·exact⟨⟨_,rfl,AStep.callPure hΓ rfl rfl rfl (by simp[idsF]) hou (Q2r _)⟩,trivial⟩
 refine zA ?_
 refine ACode.cond rfl (fun hb=>absurd hb (by simp[hop,hdl,hl])) (fun hb=>?_)
 refine zA ?_
 refine ACode.stEq (σ':=⟨0,[],ouX (mC tc0 ec0 vc0 kc m.out m.steps fu ⟨.sl 2 (fns.map cFun),kt⟩) m.out.length ou0⟩) (setX _ _ _ _) ?_
 refine zA ?_
 refine ACode.drawXA tabOk 14 13 [(11,.one (.box (cFun f)))] follows (by kernel_rfl) rfl rfl rfl rfl rfl rfl rfl rfl rfl ?_ ?_ ?_
 ·exact⟨⟨_,rfl,zIA rfl rfl rfl (by show (0:Int)<=(i:Int);omega) (by simpa using hsc)⟩,trivial⟩
 ·exact⟨⟨_,rfl,zIA rfl rfl rfl (by show (0:Int)<=(i:Int);omega) (by simpa using hsc)⟩,trivial⟩
 refine zA ?_
 refine ACode.drawCS tabOk 14 10 11 12 13 (.one (.ptr (.o 0) 0)) (.one (.ptr (.o 0) 0)) []
  (GrS (mC tc0 ec0 vc0 kc m.out m.steps fu ⟨.sl 2 (fns.map cFun),kt⟩) m.out.length ou0 H (mC tc0 ec0 vc0 kc m.out m.steps fu ⟨.sl 2 (fns.map cFun),kt⟩) (1,[(0,.cells (cFun f)),(0,.cells (List.map AC.lit ti97.zero))]) fun v H1=>∃c,v=.one c/\ER H1 nm (allE .nil f.params d) c)
  (GrS (mC tc0 ec0 vc0 kc m.out m.steps fu ⟨.sl 2 (fns.map cFun),kt⟩) m.out.length ou0 H (mC (.box (cTr f.body)) ec0 vc0 kc m.out m.steps fu ⟨.sl 2 (fns.map cFun),kt⟩) (1,[(0,.cells (cFun f)),(0,.cells (List.map AC.lit ti97.zero))]) fun v H1=>∃c,v=.one c/\ER H1 nm (allE .nil f.params d) c)
  follows (by kernel_rfl) rfl rfl (by decide) (by kernel_rfl) (by kernel_rfl) rfl rfl rfl rfl rfl rfl rfl ?_ ?_ trivial (fun _ _ _=>trivial) (fun _ _ _=>trivial) ?_ ?_ ?_ ?_ ?_
 ·rintro v σ ⟨ou1,H1,rfl,_,_⟩;rfl
 ·rintro v σ ⟨ou1,H1,rfl,_,_⟩;rfl
 ·refine Q0u.ofR (Q0y.call hΓ rfl rfl rfl rfl ⟨trivial,by simp,hdi,trivial⟩ hw.ok (Qan hΓ (.nil (H:=H) (nm:=nm)) hd hpl h20 _ hw.inO) fun r ou' hq hr ho=>?_)
  obtain⟨H1,c1,rfl,hg,hec⟩:=hq
  exact GrS.of hg ⟨c1,rfl,hec⟩
 ·rintro v σ ⟨ou1,H1,rfl,_,_,rfl,_⟩;exact AStep.ofOp tabOk rfl
 ·rintro v σ ⟨ou1,H1,rfl,_,_,rfl,_⟩;exact AStep.ofOp tabOk rfl
 ·rintro v σ ⟨ou1,H1,rfl,h1,h2⟩;exact⟨_,⟨ou1,H1,setXs _ _ _ _ _ _,h1,h2⟩,AStep.ofStore tabOk rfl⟩
 ·rintro v' σ ⟨ou1,H1,rfl,h1,c1,rfl,h3⟩
  refine zA ?_
  have hw2:=hw.gro h1 (by simp[ouX]) (by simp[ouX])
  have hM:MR fu ⟨.sl 2 (fns.map cFun),kt⟩ _ H1 nm { m with c:=.ev f.body (allE .nil f.params d),k:=k }:=MR.ofEv (ou':=(St.set ⟨0,[],ouX (mC (.box (cTr f.body)) ec0 vc0 kc m.out m.steps fu ⟨.sl 2 (fns.map cFun),kt⟩) m.out.length ou1⟩ (.o 0) (.cells (mC (.box (cTr f.body)) c1 vc0 kc m.out m.steps fu ⟨.sl 2 (fns.map cFun),kt⟩))).ou) hw2 h3 (hk.mo (h1.mo nm)) h0.ids.2.2.1 hfc rfl rfl (fun _=>rfl)
  refine AFn.fin' rfl (WkF.refl _) (by simp) hM.ok ⟨rfl,H1,nm,_,?_,h1.mo nm,hM⟩
  rfl
end
section
variable {fu:Int}{kt:Nat}{fns:List Fun}{ou:Outer}{H:Hm}{nm:Nm2}{m:Ms}{k:List Fm}{kc tc0 ec0 vc0:AC}
theorem VsR.va:∀{l:List Vl}{cs:List (List AC)},VsR H nm l cs->∃lv:List VA,cs=lv.map cV
 |_,_,.nil=>⟨[],rfl⟩
 |_,_,.cons v c vs cs hv h=>by
  obtain⟨lv,rfl⟩:=VsR.va h
  exact⟨⟨c,hv.ids⟩::lv,rfl⟩
theorem Qd6(hΓ:∀g cs,(g,cs)∈Γ->idsL isO cs)(h0:M0 fu ⟨.sl 2 (fns.map cFun),kt⟩ ou H nm m tc0 ec0 vc0 kc)(hk:KR H nm k kc){n:Nat}{sl:List Vl}{c:AC}(hv:VR H nm (.cap (n:Int) sl) c){f:Fun}(hf:fns[n]?=some f){l:List Vl}{cs:List (List AC)}(hl:VsR H nm l cs)(hpl:f.params.length=l.length+1)(h20:f.params.length<=1048576):
  AFn Tryz.prog Γ 109 [.one (.ptr (.o 0) 0),.one c,.one (.sl 1 cs)] ou (StQ fu ⟨.sl 2 (fns.map cFun),kt⟩ H nm (.ok { m with c:=.ev f.body (allE .nil f.params (.cap (n:Int) sl::l)),k:=k })):=by
 have hfc:(FcT.mk (.sl 2 (fns.map cFun)) kt).ids isO:=by show idsS isO _;simp
 have hoX:=h0.ouX
 have hki:=hk.ids
 have hvi:=hv.ids
 have hli:=hl.ids
 have hll:=hl.len
 rw[hoX]
 have hw:=h0.w
 rw[hoX]at hw
 generalize hmc:ou=ou0 at hw
 clear hoX
 have hvl:=VsR.cons (H:=H) (nm:=nm) _ _ _ _ hv hl
 obtain⟨lv,rfl⟩:=hl.va
 obtain⟨scs,rfl⟩:∃scs,c=iB tCap [int n,.sl 1 scs]:=by
  rcases hv.isCap with ⟨g,fs,cs,h1,h2,h3⟩|⟨h1,_⟩
  ·cases h1;exact⟨cs,h2⟩
  ·exact absurd rfl (h1 _ sl)
 have n1:notT tClo (iB tCap [int n,.sl 1 scs]):=.inr ⟨_,_,_,rfl,rfl⟩
 have hsc:(fns.map cFun)[n]?=some (cFun f):=by rw[List.getElem?_map,hf];rfl
 have hcat:=Qej (Γ:=Γ) hΓ [[⟨iB tCap [int n,.sl 1 scs],hvi⟩],lv] (by simp) (by simp;simp at hll;omega)
 refine AFn.walk 137 tabOk Tryz.func109 rfl (by kernel_rfl) rfl rfl fun hou=>?_
 refine zA ?_
 refine zS (AStep.assertNo Q3z rfl zClo rfl rfl n1) ?_
 refine zA ?_
 refine zS (AStep.assertYes Q3h rfl rfl) ?_
 refine zA ?_
 refine ACode.drawXA tabOk 11 10 [(8,.one (.box (cFun f)))] follows (by kernel_rfl) rfl rfl rfl rfl rfl rfl rfl rfl rfl ?_ ?_ ?_
 ·exact⟨⟨_,rfl,zIA rfl rfl rfl (by show (0:Int)<=(n:Int);omega) (by simpa using hsc)⟩,trivial⟩
 ·exact⟨⟨_,rfl,zIA rfl rfl rfl (by show (0:Int)<=(n:Int);omega) (by simpa using hsc)⟩,trivial⟩
 refine zM ?_
 refine ACode.cond rfl (fun _=>?_) (fun hb=>absurd hb (by simp at hll;simp;omega))
 refine zA ?_
 refine ACode.stEq (σ':=⟨2,[(1,.cells (cFun f)),(1,.cells (List.map AC.lit ti97.zero)),(0,.cells [.ptr (.o 0) 0])],ouX (mC tc0 ec0 vc0 kc m.out m.steps fu ⟨.sl 2 (fns.map cFun),kt⟩) m.out.length ou0⟩) rfl ?_
 refine ACode.drawC2 tabOk 16 [11,12,13,14,15] [(7,.one (iB tCap [int n,.sl 1 scs])),(8,.one (.sl 1 [[iB tCap [int n,.sl 1 scs]]])),(10,.one (.sl 1 [[.sl 1 [[iB tCap [int n,.sl 1 scs]]]],[.sl 1 (lv.map cV)]]))] (fun vs σ=>match vs with
  |[]=>σ=⟨2,[(1,.cells (cFun f)),(1,.cells (List.map AC.lit ti97.zero)),(0,.cells [.ptr (.o 0) 0])],ouX (mC tc0 ec0 vc0 kc m.out m.steps fu ⟨.sl 2 (fns.map cFun),kt⟩) m.out.length ou0⟩
  |[x]=>x=.one (.sl 1 ([[⟨iB tCap [int n,.sl 1 scs],hvi⟩],lv].flatten.map cV))/\σ=⟨2,[(1,.cells (cFun f)),(1,.cells (List.map AC.lit ti97.zero)),(0,.cells [.ptr (.o 0) 0])],ouX (mC tc0 ec0 vc0 kc m.out m.steps fu ⟨.sl 2 (fns.map cFun),kt⟩) m.out.length ou0⟩
  |[x,y]=>GrS (mC tc0 ec0 vc0 kc m.out m.steps fu ⟨.sl 2 (fns.map cFun),kt⟩) m.out.length ou0 H (mC tc0 ec0 vc0 kc m.out m.steps fu ⟨.sl 2 (fns.map cFun),kt⟩) (2,[(1,.cells (cFun f)),(1,.cells (List.map AC.lit ti97.zero)),(0,.cells [.ptr (.o 0) 0])]) (fun v H1=>∃c,v=.one c/\ER H1 nm (allE .nil f.params (.cap (n:Int) sl::l)) c) y σ
  |[x,y,a]=>GrS (mC tc0 ec0 vc0 kc m.out m.steps fu ⟨.sl 2 (fns.map cFun),kt⟩) m.out.length ou0 H (mC tc0 ec0 vc0 kc m.out m.steps fu ⟨.sl 2 (fns.map cFun),kt⟩) (2,[(1,.cells (cFun f)),(1,.cells (List.map AC.lit ti97.zero)),(0,.cells [.ptr (.o 0) 0])]) (fun v H1=>∃c,v=.one c/\ER H1 nm (allE .nil f.params (.cap (n:Int) sl::l)) c) y σ/\a=.one (.ptr (.o 0) 0)
  |[x,y,a,b]=>GrS (mC tc0 ec0 vc0 kc m.out m.steps fu ⟨.sl 2 (fns.map cFun),kt⟩) m.out.length ou0 H (mC tc0 ec0 vc0 kc m.out m.steps fu ⟨.sl 2 (fns.map cFun),kt⟩) (2,[(1,.cells (cFun f)),(1,.cells (List.map AC.lit ti97.zero)),(0,.cells [.ptr (.o 0) 0])]) (fun v H1=>∃c,v=.one c/\ER H1 nm (allE .nil f.params (.cap (n:Int) sl::l)) c) y σ/\a=.one (.ptr (.o 0) 0)/\b=.one (.ptr (.o 0) 0)
  |[x,y,a,b,s]=>GrS (mC tc0 ec0 vc0 kc m.out m.steps fu ⟨.sl 2 (fns.map cFun),kt⟩) m.out.length ou0 H (mC (.box (cTr f.body)) ec0 vc0 kc m.out m.steps fu ⟨.sl 2 (fns.map cFun),kt⟩) (2,[(1,.cells (cFun f)),(1,.cells (List.map AC.lit ti97.zero)),(0,.cells [.ptr (.o 0) 0])]) (fun v H1=>∃c,v=.one c/\ER H1 nm (allE .nil f.params (.cap (n:Int) sl::l)) c) y σ/\a=.one (.ptr (.o 0) 0)/\b=.one (.ptr (.o 0) 0)/\s=.bot
  |_=>False) follows (by kernel_rfl) rfl rfl (by decide) (by kernel_rfl) (by kernel_rfl) rfl rfl ?_ ?_ (by decide) ?_ ?_
 ·intro vs σ h
  match vs with
  |[]=>subst h;rfl
  |[_]=>obtain⟨_,rfl⟩:=h;rfl
  |[_,_]=>obtain⟨_,_,rfl,_⟩:=h;rfl
  |[_,_,_]=>obtain⟨⟨_,_,rfl,_⟩,_⟩:=h;rfl
  |[_,_,_,_]=>obtain⟨⟨_,_,rfl,_⟩,_⟩:=h;rfl
  |[_,_,_,_,_]=>obtain⟨⟨_,_,rfl,_⟩,_⟩:=h;rfl
  |_::_::_::_::_::_::_=>exact h.elim
 ·intro vs σ h
  exact⟨⟨_,rfl,HStep.plain rfl (AStep.mkIfc Q3h rfl rfl)⟩,⟨_,rfl,HStep.auto tabOk rfl⟩,⟨_,rfl,HStep.auto tabOk rfl⟩,trivial⟩
 ·intro vs σ h i o hi ho
  match vs with
  |[]=>
   subst h;cases hi;cases ho
   refine⟨rfl,.inl (.inr ⟨rfl,Q0y.call hΓ rfl rfl rfl rfl ⟨by simp[hvi],trivial⟩ hw.ok (hcat _) fun r ou' hq hr ho=>?_⟩)⟩
   obtain⟨rfl,rfl⟩:=hq
   exact⟨rfl,rfl⟩
  |[x]=>
   obtain⟨rfl,rfl⟩:=h;cases hi;cases ho
   refine⟨rfl,.inl (.inr ⟨rfl,Q0y.call hΓ rfl rfl rfl rfl ⟨trivial,by simp,Qil _,trivial⟩ hw.ok (Qan hΓ (.nil (H:=H) (nm:=nm)) (by simpa[cV]using hvl) (by simpa using hpl) h20 _ hw.inO) fun r ou' hq hr ho=>?_⟩)⟩
   obtain⟨H1,c1,rfl,hg,hec⟩:=hq
   exact GrS.of (L:=(2,[(1,.cells (cFun f)),(1,.cells (List.map AC.lit ti97.zero)),(0,.cells [.ptr (.o 0) 0])])) hg ⟨c1,rfl,hec⟩
  |[x,y]=>obtain⟨ou1,H1,rfl,h1,h2⟩:=h;cases hi;cases ho;exact⟨rfl,.inl (.inl ⟨_,_,AStep.ofOp tabOk rfl,⟨ou1,H1,rfl,h1,h2⟩,rfl⟩)⟩
  |[x,y,a]=>obtain⟨⟨ou1,H1,rfl,h1,h2⟩,rfl⟩:=h;cases hi;cases ho;exact⟨rfl,.inl (.inl ⟨_,_,AStep.ofOp tabOk rfl,⟨ou1,H1,rfl,h1,h2⟩,rfl,rfl⟩)⟩
  |[x,y,a,b]=>obtain⟨⟨ou1,H1,rfl,h1,h2⟩,rfl,rfl⟩:=h;cases hi;cases ho;exact⟨rfl,.inl (.inl ⟨_,_,AStep.ofStore tabOk rfl,⟨ou1,H1,setXs _ _ _ _ _ _,h1,h2⟩,rfl,rfl,rfl⟩)⟩
  |_::_::_::_::_::_=>cases hi
 ·intro vs σ hlen h
  match vs,hlen with
  |[x,y,a,b,s],_=>
   obtain⟨⟨ou1,H1,rfl,h1,c1,rfl,h3⟩,rfl,rfl,rfl⟩:=h
   refine zA ?_
   have hw2:=hw.gro h1 (by simp[ouX]) (by simp[ouX])
   have hM:MR fu ⟨.sl 2 (fns.map cFun),kt⟩ _ H1 nm { m with c:=.ev f.body (allE .nil f.params (.cap (n:Int) sl::l)),k:=k }:=MR.ofEv (ou':=(St.set ⟨0,[],ouX (mC (.box (cTr f.body)) ec0 vc0 kc m.out m.steps fu ⟨.sl 2 (fns.map cFun),kt⟩) m.out.length ou1⟩ (.o 0) (.cells (mC (.box (cTr f.body)) c1 vc0 kc m.out m.steps fu ⟨.sl 2 (fns.map cFun),kt⟩))).ou) hw2 h3 (hk.mo (h1.mo nm)) h0.ids.2.2.1 hfc rfl rfl (fun _=>rfl)
   refine AFn.fin' rfl (WkF.refl _) (by simp) hM.ok ⟨rfl,H1,nm,_,?_,h1.mo nm,hM⟩
   rfl
end
structure FragN (fns:List Fun)(l:Lab):Prop where
 sh:shpQ l
 op:l.op=0∨l.op=1∨l.op=3∨l.op=8∨l.op=14∨l.op=15∨l.op=16
 pr:l.op=8->l.n=0
 wd:l.op=1->inW l.n
 kl:l.ops.length<=1048576
 cl:l.op=14∨l.op=15->0<=l.n/\l.n < fns.length
 ar:l.op=14->(fns.getD l.n.toNat ⟨[],default⟩).params.length=l.ops.length
 sl:l.op=16->0<=l.n
def G3 (fns:List Fun):GP:={ p:=FragN fns,S:=fun _=>True,W:=inW,fns:=fns,R:=False }
structure FnsOk (fns:List Fun):Prop where
 b:∀f∈fns,allT (FragN fns) f.body
 p:∀f∈fns,f.params.length<=1048576
theorem G3ok{fns:List Fun}(hf:FnsOk fns):GPok (G3 fns) where
 sh:=fun l h=>h.sh
 bnd:=fun _ _ _ _=>trivial
 wd:=fun l h h1=>h.wd h1
 rc:=fun l h h1=>by
  exfalso
  have:=h.op
  omega
 wr:=(G1ok true).wr
 wl:=(G1ok true).wl
 wm:=(G1ok true).wm
 fn:=fun f h=>⟨hf.b f h,fun _ _=>trivial⟩
 cl:=fun l h ho=>h.cl ho
 rs:=fun l h ho=>by
  have:=h.op
  exfalso;omega
theorem G3opn{fns:List Fun}{t:Tr}(h:allT (FragN fns) t):opdN t<=1048576:=by
 have F:FragN fns ⟨t.op,t.n,t.binds,t.kids.map Tr.op,t.alts⟩:=Q0x h
 have:=F.kl
 simp at this
 unfold opdN
 split <;> omega
theorem kidC3(hΓ:∀g cs,(g,cs)∈Γ->idsL isO cs){fu:Int}{fns:List Fun}(hf:FnsOk fns):KidC fu (.sl 2 (fns.map cFun)) (G3 fns) Γ:=by
 intro ou H nm m m' t e d k ec kc tc0 ec0 vc0 kc0 dc kt h0 he hd hk ht hge hgd hle hn hgk hkb hol hx hnx
 have F:FragN fns ⟨t.op,t.n,t.binds,t.kids.map Tr.op,t.alts⟩:=Q0x ht
 have hsh:=g_sh (G3ok hf) ht
 have hopk:=g_opN (G3ok hf) ht
 have hfc:(FcT.mk (.sl 2 (fns.map cFun)) kt).ids isO:=by show idsS isO _;simp
 have hx0:kidM fu fns m (.mk t e d) k=.ok m':=hx
 by_cases hlt:d.length < opdN t
 ·obtain⟨s,hs⟩:=Q01 (Nat.lt_of_lt_of_le hlt hopk)
  have:=AFnP.okStep (Qcq (fns:=fns) hΓ h0 hfc he hd hk hlt hs) hx0
  rwa [hx0]at this
 have hl:d.length=opdN t:=by omega
 have hnl:¬(Fm.mk t e d).done.length < opdN (Fm.mk t e d).t:=hlt
 obtain⟨o,n,b,ks,al⟩:=t
 simp only[Tr.op,Tr.n,Tr.binds,Tr.kids,Tr.alts]at F hsh
 have hops:o=3∨o=8∨o=14∨o=15∨o=16:=by
  have h1:=F.op
  unfold nLf at hn
  simp only[Tr.op]at hn
  simp only at h1
  omega
 rcases hops with rfl|rfl|rfl|rfl|rfl
 ·have hopn:opdN (.mk 3 n b ks al)=ks.length:=rfl
  have hkl:=hsh.app.1
  rw[hopn]at hl
  match d,hd,hl with
  |[],_,hl=>simp at hl;omega
  |v0::ds,hd,hl=>
   obtain⟨c0,dcs,rfl,hv0,hds⟩:=hd.consE
   have hcm:callM fns { m with k:=k } v0 ds=.ok m':=by
    unfold kidM at hx0
    rw[if_neg hnl]at hx0
    exact hx0
   refine kid_app hΓ h0 hfc he hv0 hds hk (by simpa using hl) rfl (fun ou' h0'=>?_)
   cases v0 with
   |clo t' e'=>
    obtain⟨g1,g2,_⟩:=hgd.1
    have:=(Q0x g2).op
    simp only[g1]at this
    omega
   |cap g s=>
    obtain⟨⟨hg0,hg1⟩,_⟩:=hgd.1
    obtain⟨i,rfl⟩:∃i:Nat,g=(i:Int):=⟨g.toNat,by omega⟩
    have hi:i < fns.length:=by have:((i:Int)) < ((G3 fns).fns.length:Int):=hg1;simpa[G3]using this
    obtain⟨f,hfi⟩:=Q01 hi
    have hgd':fns.getD (i:Int).toNat ⟨[],default⟩=f:=by rw[Int.toNat_natCast,List.getD_eq_getElem?_getD,hfi];rfl
    simp only[callM,hgd']at hcm
    split at hcm
    ·rename_i hpl
     cases hcm
     exact Qd6 hΓ h0' hk hv0 hfi hds hpl (hf.p f (List.mem_of_getElem? hfi))
    ·cases hcm
   |res fs=>exact hgd.1.1.elim
   |_=>cases hcm
 ·have hpn:=hsh.prim
  have hopn:opdN (.mk 8 n b ks al)=ks.length:=rfl
  rw[hopn]at hl
  have hn0:n=0:=F.pr rfl
  subst hn0
  have hpm:(Q0o fu { m with k:=k } (.mk 8 0 b ks al) d).map (fun (m',v)=>{ m' with c:=.rt v })=.ok m':=by
   unfold kidM at hx0
   rw[if_neg hnl]at hx0
   exact hx0
  have hpm2:Q0o fu { m with k:=k } (.mk 8 0 b ks al) d=primM fu { m with k:=k } 0 d:=rfl
  rw[hpm2]at hpm
  have hk2:ks.length=2:=by
   have:=hpn.2.2.1
   simp[Q2j]at this
   omega
  obtain⟨x0,y0,rfl⟩:=list2 (l:=d) (by omega)
  cases hpr:primM fu { m with k:=k } 0 [x0,y0] with
  |error c=>rw[hpr]at hpm;cases hpm
  |ok mv=>
   obtain⟨m1,v⟩:=mv
   obtain⟨x,y,rfl,rfl⟩:=Qdk (.inl rfl) hpr
   cases hpr
   cases hpm
   obtain⟨c0,d1,rfl,hv0,hd1⟩:=hd.consE
   obtain⟨c1,d2,rfl,hv1,hd2⟩:=hd1.consE
   have hz:=hd2.nilE
   subst hz
   have e0:=hv0.wordE
   have e1:=hv1.wordE
   subst e0;subst e1
   show AFn Tryz.prog Γ 86 _ ou (StQ fu ⟨_,kt⟩ H nm (.ok { m with c:=.rt (.word (wrapW (x+y))),k:=k }))
   refine Qg3 hΓ h0 hfc he hd hk hl (by simp[Tr.op]) fun ou' h0'=>Qdm hΓ hd rfl ?_
   obtain⟨_,c,hvc,hpa⟩:=Qca (Γ:=Γ) (H:=H) (nm:=nm) (m:={ m with k:=k }) (fu:=fu) hΓ (.inl rfl) hgd.1 hgd.2.1 rfl ou'
   refine AFn.mono hpa fun r ou2 hq=>?_
   obtain⟨rfl,rfl⟩:=hq
   exact⟨kt,H,nm,_,rfl,.refl _ _,hvc,⟨h0'.ids,h0'.m0,h0'.w⟩⟩
 ·obtain⟨h1,h2⟩:=F.cl (.inl rfl)
  obtain⟨i,rfl⟩:∃i:Nat,n=(i:Int):=⟨n.toNat,by simp only at h1;omega⟩
  have hi:i < fns.length:=by simpa using h2
  obtain⟨f,hfi⟩:=Q01 hi
  have hgd':fns.getD (i:Int).toNat ⟨[],default⟩=f:=by rw[Int.toNat_natCast,List.getD_eq_getElem?_getD,hfi];rfl
  have har:=F.ar rfl
  simp only[hgd',List.length_map]at har
  have hdl:d.length=ks.length:=hl
  have hxm:({ m with c:=.ev f.body (allE .nil f.params d),k:=k }:Ms)=m':=by
   unfold kidM at hx0
   rw[if_neg hnl]at hx0
   have:(Except.ok { m with c:=.ev (fns.getD (i:Int).toNat ⟨[],default⟩).body (allE .nil (fns.getD (i:Int).toNat ⟨[],default⟩).params d),k:=k }:Except Int Ms)=.ok m':=hx0
   rw[hgd']at this
   cases this;rfl
  subst hxm
  exact kid_fn (t:=.mk 14 (i:Int) b ks al) hΓ h0 he hd hk hdl rfl rfl hfi (by omega) (hf.p f (List.mem_of_getElem? hfi))
 ·have hxm:({ m with c:=.rt (.cap n d),k:=k }:Ms)=m':=by
   unfold kidM at hx0
   rw[if_neg hnl]at hx0
   have:(Except.ok { m with c:=.rt (.cap n d),k:=k }:Except Int Ms)=.ok m':=hx0
   cases this;rfl
  subst hxm
  exact Qcs hΓ h0 hfc he hd hk hl rfl
 ·have hn0:0<=n:=F.sl rfl
  obtain⟨i,rfl⟩:∃i:Nat,n=(i:Int):=⟨n.toNat,by omega⟩
  have hxm:(match d.getD 0 .nil with
   |.cap _ slots=>if (i:Int) < slots.length then (Except.ok { m with c:=.rt (slots.getD (i:Int).toNat .nil),k:=k }:Except Int Ms)else .error 5
   |_=>.error 5)=.ok m':=by
   unfold kidM at hx0
   rw[if_neg hnl]at hx0
   exact hx0
  have hopn:opdN (.mk 16 (i:Int) b ks al)=ks.length:=rfl
  have hk1:ks.length=1:=by
   obtain⟨ops,ho,hs⟩:=hsh.sh
   simp[Go.CoreX.shape,wants]at hs
   omega
  obtain⟨v,rfl⟩:=list1 (l:=d) (by omega)
  obtain⟨c,dd,rfl,hv,hdd⟩:=hd.consE
  have hz:=hdd.nilE
  subst hz
  simp only[List.getD_cons_zero]at hxm
  cases v with
  |cap g s=>
   simp only at hxm
   split at hxm
   ·rename_i hlt2
    have hls:i < s.length:=by omega
    obtain⟨y,hy⟩:=Q01 hls
    have hgy:s.getD (i:Int).toNat .nil=y:=by rw[Int.toNat_natCast,List.getD_eq_getElem?_getD,hy];rfl
    rw[hgy]at hxm
    cases hxm
    exact Qco (t:=.mk 16 (i:Int) b ks al) hΓ h0 hfc he hv hk hk1 rfl rfl hy
   ·cases hxm
  |_=>cases hxm
theorem startC3(hΓ:∀g cs,(g,cs)∈Γ->idsL isO cs){fu:Int}{fns:List Fun}(hf:FnsOk fns):StartC fu (.sl 2 (fns.map cFun)) (G3 fns) Γ:=by
 intro ou H nm m m' t e ec vc kc kt h0 he hkr ht hge hgk hkb hol hx hnx
 have F:FragN fns ⟨t.op,t.n,t.binds,t.kids.map Tr.op,t.alts⟩:=Q0x ht
 have hfc:(FcT.mk (.sl 2 (fns.map cFun)) kt).ids isO:=by show idsS isO _;simp
 have hx0:Q0h fu fns m t e=.ok m':=hx
 have hop:=F.op
 simp only at hop
 by_cases e0:t.op=0
 ·have:=Q9s hΓ h0 hfc he hkr e0
  unfold Q0h at hx0;rw[if_pos e0]at hx0;cases hx0;exact this
 by_cases e1:t.op=1
 ·have:=Q9t hΓ h0 hfc hkr e1
  unfold Q0h at hx0;rw[if_neg e0,if_pos e1]at hx0;cases hx0;exact this
 have hx1:kidM fu fns m (.mk t e []) m.k=.ok m':=by
  unfold Q0h at hx0;rw[if_neg e0,if_neg e1,if_neg (by omega),if_neg (by omega),if_neg (by omega)]at hx0;exact hx0
 have hnl:nLf t.op:=fun h=>by omega
 exact Qey hΓ h0 he hkr hnl (kidC3 hΓ hf ou H nm m m' t e [] m.k ec kc _ _ _ _ [] kt h0 he .nil hkr ht hge trivial (Nat.zero_le _) hnl hgk hkb hol hx1 hnx)
theorem Q5w{H:Type}:∀l:List (DataW H),Rows.uptoBulkAll l=Q2w Rows.uptoBulk l
 |[]=>rfl
 |d::l=>by simp only[Rows.uptoBulkAll,Q2w,List.map_cons,List.sum_cons]at *;rw[Q5w l];rfl
theorem Q6h{H:Type}(l:List (DataW H)):Q2w Rows.uptoBulk l+1<=Rows.uptoBulk (.agg l):=by
 simp only[Rows.uptoBulk,Q5w];omega
theorem Qea{H:Type}(l r:List (DataW H)):Q2w Rows.uptoBulk l+1<=Rows.uptoBulk (.slice l r):=by
 simp only[Rows.uptoBulk,Q5w];omega
theorem Qiz{H:Type}:1<=Rows.uptoBulk (DataW.nil:DataW H):=by simp[Rows.uptoBulk]
section
variable {H:Type}{enc:TypeId×Value->H}{w:World}
abbrev I64:={i:Int // IntKind.i64.min<=i/\i<=IntKind.i64.max}
theorem Q34(n:Nat):Opens enc Tryz.prog w Rows.uptoBulk 3 n (fun i:I64=>[int i.1]) (fun _=>1):=by
 intro cs x h
 obtain⟨i,rfl,rfl,hw⟩:=DataW.trod_int Tryz.underlying3 h
 refine⟨⟨i,?_⟩,⟨_,_,rfl,⟨rfl,rfl⟩,rfl⟩,by simp[Rows.uptoBulk]⟩
 simpa[Lit.wf]using hw
theorem Q39{t e:TypeId}{s:Nat}(ht:Tryz.prog.underlying t=some (.slice e))(hs:Tryz.prog.cellsOf e=s)(h0:0 < s){α:Type}{c:α->List AC}{wt:α->Nat}(n:Nat)(he:∀m,m < n->Opens enc Tryz.prog w Rows.uptoBulk e m c wt):
  Opens enc Tryz.prog w Rows.uptoBulk t n (fun l:List α=>[.sl s (l.map c)]) (fun l=>wtAll wt l+1):=by
 cases n with
 |zero=>exact Opens.zero
 |succ n=>exact Opens.slice Qea Qiz ht hs h0 (he n (by omega))
theorem wt_one{α:Type}(l:List α):wtAll (fun _=>1) l=l.length:=by
 unfold wtAll
 induction l with
 |nil=>rfl
 |cons a l ih=>simp only[List.map_cons,List.sum_cons,List.length_cons,ih];omega
theorem Q48(n:Nat):Opens enc Tryz.prog w Rows.uptoBulk 25 n (fun l:List Int=>[.sl 1 (l.map cI)]) (fun l=>l.length+1):=by
 refine Opens.as (Q39 Tryz.underlying25 (s:=1) (by kernel_rfl) (by omega) n (fun m _=>Q34 m)) fun l=>⟨l.map (·.1),?_,?_⟩
 ·simp only[List.map_map];rfl
 ·rw[wt_one];simp
def bAlt (a:Alt):Nat:=a.binds.length+3
def bAlts (l:List Alt):Nat:=(l.map bAlt).sum
def bEx (x:Ex):Nat:=x.binds.length+x.kids.length+bAlts x.alts+6
def bExs (l:List Ex):Nat:=(l.map bEx).sum
theorem Qia(n:Nat):Opens enc Tryz.prog w Rows.uptoBulk 117 n cAlt bAlt:=by
 cases n with
 |zero=>exact Opens.zero
 |succ n=>
  refine Opens.as (Opens.struct Q6h Tryz.underlying117 (.cons rfl (by kernel_rfl) (Q34 n) (fun _=>rfl) (.cons rfl (by kernel_rfl) (Q48 n) (fun _=>rfl) (.nil _))) (fun _=>(show (2:Nat)=_ by kernel_rfl))) ?_
  rintro⟨i,l,_⟩
  exact⟨⟨i.1,l⟩,rfl,by show l.length+3<=1+(l.length+1+0)+1;omega⟩
theorem opensEx(n:Nat):Opens enc Tryz.prog w Rows.uptoBulk 75 n cEx bEx:=by
 cases n with
 |zero=>exact Opens.zero
 |succ n=>
  have ha:=Q39 (enc:=enc) (w:=w) (t:=73) Tryz.underlying73 (s:=2) (by kernel_rfl) (by omega) n (fun m _=>Qia m)
  refine Opens.as (Opens.struct Q6h Tryz.underlying75 (.cons rfl (by kernel_rfl) (Q34 n) (fun _=>rfl) (.cons rfl (by kernel_rfl) (Q34 n) (fun _=>rfl) (.cons rfl (by kernel_rfl) (Q48 n) (fun _=>rfl) (.cons rfl (by kernel_rfl) (Q48 n) (fun _=>rfl) (.cons rfl (by kernel_rfl) ha (fun _=>rfl) (.nil _)))))) (fun _=>(show (5:Nat)=_ by kernel_rfl))) ?_
  rintro⟨i,j,b,k,l,_⟩
  refine⟨⟨i.1,j.1,b,k,l⟩,rfl,?_⟩
  show b.length+k.length+bAlts l+6<=1+(1+(b.length+1+(k.length+1+(wtAll bAlt l+1+0))))+1
  have:wtAll bAlt l=bAlts l:=rfl
  omega
theorem Qi9(n:Nat):Opens enc Tryz.prog w Rows.uptoBulk 34 n (fun l:List Ex=>[.sl 5 (l.map cEx)]) (fun l=>bExs l+1):=
 Q39 Tryz.underlying34 (s:=5) (by kernel_rfl) (by omega) n (fun m _=>opensEx m)
end
theorem Q8n{α:Type}{f:α->Nat}:∀{l:List α}{a:α},a∈l->f a<=(l.map f).sum
 |b::l,a,h=>by
  simp only[List.map_cons,List.sum_cons]
  rcases List.mem_cons.1 h with rfl|h
  ·omega
  ·have:=Q8n (f:=f) h;omega
theorem Q8o{α:Type}{f:α->Nat}(hf:∀a,1<=f a):∀l:List α,l.length<=(l.map f).sum
 |[]=>by simp
 |b::l=>by
  have h1:=hf b
  have h2:=Q8o hf l
  simp only[List.map_cons,List.sum_cons,List.length_cons];omega
theorem Q8e:∀l:List Alt,(l.flatMap (·.binds)).length<=bAlts l
 |[]=>by simp[bAlts]
 |a::l=>by
  have:=Q8e l
  simp only[bAlts,bAlt,List.flatMap_cons,List.length_append,List.map_cons,List.sum_cons]at *
  omega
theorem okB_of{e:List Ex}(h:bExs e<=1048576):okB e:=by
 have h1:=Q8o (f:=bEx) (fun x=>by simp only[bEx];omega) e
 have hx:∀x∈e,bEx x<=1048576:=fun x hx=>by
  have h2:bEx x<=bExs e:=Q8n hx
  omega
 have h1':e.length<=bExs e:=h1
 refine⟨⟨by omega,fun x hx1=>?_⟩,fun x hx1=>?_⟩
 ·have h2:=hx x hx1
  simp only[bEx]at h2
  have h3:=Q8o (f:=bAlt) (fun a=>by simp only[bAlt];omega) x.alts
  have h3':x.alts.length<=bAlts x.alts:=h3
  refine⟨by omega,by omega,by omega,fun a ha=>?_⟩
  have h4:bAlt a<=bAlts x.alts:=Q8n ha
  simp only[bAlt]at h4
  omega
 ·have h2:=hx x hx1
  simp only[bEx]at h2
  have h3:=Q8e x.alts
  omega
theorem Qbk{W:World}(h:laidMetH Tryz.prog [("provenance/core.arity",Rows.laid_provenance_core_arity)] W):∀g cs,(g,cs)∈Γc->RG W (ctx0 W) cs g:=by
 have ht:Lib.TabIs Tryz.prog W "provenance/core.arity" .i64 [2,2,2,2,2,2,2,1,2,1,2,3]:=
  Lib.tabIs_of_head (rest:=[]) (g:=1) (t:=183) (n:=12) (by kernel_rfl) (by kernel_rfl) (by kernel_rfl) Tryz.underlying3 (by kernel_rfl) (by kernel_rfl) h
 have hg:Tryz.prog.globalNamed "provenance/core.arity" = some 1:=by kernel_rfl
 intro g cs hm
 simp[Γc]at hm
 obtain⟨rfl,rfl⟩:=hm
 exact RG.ofVar hg ht rfl
structure FnD where
 name:Int
 params:List Int
 body:List Ex
def encF (f:FnD):List AC:=[int f.name,.sl 1 (f.params.map cI),.sl 5 (f.body.map cEx)]
@[simp] theorem idsL_encF (p:Abs.Id->Prop) (f:FnD):idsL p (encF f):=by simp[encF]
theorem Q97(p:Abs.Id->Prop)(l:List FnD):idsS p (l.map encF):=Q1r (f:=encF) (fun f=>by simp[encF]) l
@[simp] theorem ids_encF_l (k:Nat) (l:List FnD):idsS (inL k) (l.map encF):=Q97 _ l
@[simp] theorem Q83 (l:List FnD):idsS isO (l.map encF):=Q97 _ l
def Q7e (fs:List FnD)(x:Ex):Prop:=x.op=14∨x.op=15->∃(i:Nat)(g:FnD),x.n=(i:Int)/\fs[i]?=some g/\(x.op=14->x.kids.length=g.params.length)/\(x.op=15->g.params.length≠0)
structure FnOkD (fs:List FnD)(f:FnD):Prop where
 n:-1<=f.name/\f.name < 1048576
 pl:f.params.length<=6
 pr:∀x∈f.params,0<=x/\x < 1048576
 okb:okB f.body
 b:body f.body f.params true=0
 c:∀x∈f.body,Q7e fs x
theorem Qe2(fs:List FnD)(hfl:fs.length<=1048576)(f:FnD)(h:FnOkD fs f)(main:Int):APure Tryz.prog Γc 22 [.agg [.sl 3 (fs.map encF),int main],.agg (encF f)] (.one (int 0)):=by
 have hB:=Qhi f.body h.okb f.params (by have:=h.pl;omega) true
 rw[h.b]at hB
 have hbl:=h.okb.eo.l
 have hpl:=h.pl
 have hnm:=h.n
 intro ou
 refine AFn.walk 94 tabOk Tryz.func22 rfl (by kernel_rfl) rfl rfl fun hou=>?_
 refine zM ?_
 refine AOps.splitS rfl rfl rfl rfl (fun hb=>absurd hb (by simp;omega)) (fun _=>?_)
 refine zM ?_
 refine ACode.cond rfl (fun hb=>absurd hb (by simp;omega)) (fun _=>?_)
 refine zM ?_
 refine ACode.cond rfl (fun hb=>absurd hb (by simp;omega)) (fun _=>?_)
 refine zM ?_
 refine ACode.freeze1 (.l 0) 2 rfl rfl ?_
 refine ACode.freeze1 (.l 1) 3 rfl rfl ?_
 refine ACode.loopR hΓc (α:=Nat) (fun j=>[(26,.one (int j)),(25,.one (int (f.params.map cI).length)),(24,.one (.sl 1 (f.params.map cI))),(3,.one (.box (encF f))),(2,.one (.box [.sl 3 (fs.map encF),int main]))]) (fun j=>⟨0,[],ou⟩) (fun m j=>j<=f.params.length/\m=f.params.length - j) (a0:=0) (ρ:=_root_.id) ⟨by omega,rfl⟩ (LessR.of rfl zFS (by simp) zLO rfl rfl hou) fun m j hj=>?_
 obtain⟨hjl,rfl⟩:=hj
 refine zA ?_
 refine ACode.cond rfl (fun hb2=>?_) (fun hb2=>?_)
 ·have hlt:j < f.params.length:=by simpa using hb2
  obtain⟨x,hx⟩:=Q01 hlt
  have hxr:=h.pr x (List.mem_of_getElem? hx)
  refine zA ?_
  refine zS (zIA rfl rfl rfl (by omega) (Q06 hx)) ?_
  refine zA ?_
  refine AOps.splitS rfl rfl rfl rfl (fun hb=>absurd hb (by simp;omega)) (fun _=>?_)
  refine zM ?_
  refine ACode.cond rfl (fun hb=>absurd hb (by simp;omega)) (fun _=>?_)
  refine zM ?_
  exact cInv ⟨f.params.length - (j+1),j+1,_root_.id,by omega,⟨by omega,rfl⟩,LessR.of rfl zFS (by simp) zLO rfl rfl hou⟩
 refine zA ?_
 refine zca hΓc hB hou ?_
 refine zM ?_
 refine ACode.loopR hΓc (α:=Nat) (fun j=>[(48,.one (int j)),(47,.one (int (f.body.map cEx).length)),(46,.one (.sl 5 (f.body.map cEx))),(3,.one (.box (encF f))),(2,.one (.box [.sl 3 (fs.map encF),int main]))]) (fun j=>⟨0,[],ou⟩) (fun m j=>j<=f.body.length/\m=f.body.length - j) (a0:=0) (ρ:=_root_.id) ⟨by omega,rfl⟩ (LessR.of rfl zFS (by simp) zLO rfl rfl hou) fun m j hj=>?_
 obtain⟨hjl,rfl⟩:=hj
 clear hb2
 refine zA ?_
 refine ACode.cond rfl (fun hb2=>?_) (fun hb2=>?_)
 ·have hlt:j < f.body.length:=by simpa using hb2
  obtain⟨x,hx⟩:=Q01 hlt
  have hc:=h.c x (List.mem_of_getElem? hx)
  have hxm:=List.mem_of_getElem? hx
  obtain⟨o,n,b,k,al⟩:=x
  simp only[Q7e]at hc
  by_cases h14:o=14
  ·obtain⟨i,g,hn,hg,hk,-⟩:=hc (.inl h14)
   have hk:=hk h14
   subst h14;subst hn
   have hgl:i < fs.length:=(List.getElem?_eq_some_iff.1 hg).1
   refine zA ?_
   refine zS (zIA rfl rfl rfl (by omega) (Q06 hx)) ?_
   refine zA ?_
   refine ACode.cond rfl (fun hb=>absurd hb (by simp;omega)) (fun _=>?_)
   refine zA ?_
   refine zS (zIA rfl rfl rfl (Int.natCast_nonneg i) (Q06 hg)) ?_
   refine zA ?_
   refine AOps.splitS rfl rfl rfl rfl (fun hb=>absurd hb (by simp[hk])) (fun _=>?_)
   refine zM ?_
   exact cInv ⟨f.body.length - (j+1),j+1,_root_.id,by omega,⟨by omega,rfl⟩,LessR.of rfl zFS (by simp) zLO rfl rfl hou⟩
  by_cases h15:o=15
  ·obtain⟨i,g,hn,hg,-,hk⟩:=hc (.inr h15)
   have hk:=hk h15
   subst h15;subst hn
   have hgl:i < fs.length:=(List.getElem?_eq_some_iff.1 hg).1
   refine zA ?_
   refine zS (zIA rfl rfl rfl (by omega) (Q06 hx)) ?_
   refine zA ?_
   refine ACode.cond rfl (fun hb=>absurd hb (by simp;omega)) (fun _=>?_)
   refine zA ?_
   refine zS (zIA rfl rfl rfl (Int.natCast_nonneg i) (Q06 hg)) ?_
   refine zA ?_
   refine ACode.cond rfl (fun hb=>absurd hb (by simpa using hk)) (fun _=>?_)
   refine zM ?_
   exact cInv ⟨f.body.length - (j+1),j+1,_root_.id,by omega,⟨by omega,rfl⟩,LessR.of rfl zFS (by simp) zLO rfl rfl hou⟩
  refine zA ?_
  refine zS (zIA rfl rfl rfl (by omega) (Q06 hx)) ?_
  refine zA ?_
  refine AOps.splitS rfl rfl rfl rfl (fun _=>?_) (fun hb=>absurd hb (by simpa using h14))
  refine zM ?_
  refine ACode.cond rfl (fun _=>?_) (fun hb=>absurd hb (by simpa using h15))
  refine zM ?_
  exact cInv ⟨f.body.length - (j+1),j+1,_root_.id,by omega,⟨by omega,rfl⟩,LessR.of rfl zFS (by simp) zLO rfl rfl hou⟩
 refine zA ?_
 exact APure.fin rfl (WkF.ofEq rfl) (by simp) hou rfl
structure PrgOk (fs:List FnD)(main:Nat):Prop where
 l:fs.length<=256
 b:∀f∈fs,FnOkD fs f
 m:∃f,fs[main]?=some f/\f.params=[]
theorem Q78(fs:List FnD)(main:Nat)(h:PrgOk fs main):APure Tryz.prog Γc 11 [.agg [.sl 3 (fs.map encF),int (main:Int)]] (.one (int 0)):=by
 have hfl:=h.l
 obtain⟨f0,h0,h1⟩:=h.m
 have hml:main < fs.length:=(List.getElem?_eq_some_iff.1 h0).1
 intro ou
 refine AFn.walk 52 tabOk Tryz.func11 rfl (by kernel_rfl) rfl rfl fun hou=>?_
 refine zM ?_
 refine ACode.cond rfl (fun hb=>absurd hb (by simp;intro h;subst h;simp at hml)) (fun _=>?_)
 refine zM ?_
 refine ACode.cond rfl (fun hb=>absurd hb (by simp;omega)) (fun _=>?_)
 refine zM ?_
 refine ACode.cond rfl (fun hb=>absurd hb (by simp;omega)) (fun _=>?_)
 refine zA ?_
 refine zS (zIA rfl rfl rfl (Int.natCast_nonneg main) (Q06 h0)) ?_
 refine zM ?_
 refine ACode.cond rfl (fun hb=>absurd hb (by simp[h1])) (fun _=>?_)
 refine zA ?_
 refine ACode.freeze1 (.l 0) 1 rfl rfl ?_
 refine ACode.loopR hΓc (α:=Nat) (fun j=>[(41,.one (int j)),(40,.one (int (fs.map encF).length)),(39,.one (.sl 3 (fs.map encF))),(1,.one (.box [.sl 3 (fs.map encF),int (main:Int)]))]) (fun j=>⟨0,[],ou⟩) (fun m j=>j<=fs.length/\m=fs.length - j) (a0:=0) (ρ:=_root_.id) ⟨by omega,rfl⟩ (LessR.of rfl zFS (by simp) zLO rfl rfl hou) fun m j hj=>?_
 obtain⟨hjl,rfl⟩:=hj
 refine zA ?_
 refine ACode.cond rfl (fun hb2=>?_) (fun hb2=>?_)
 ·have hlt:j < fs.length:=by simpa using hb2
  obtain⟨x,hx⟩:=Q01 hlt
  refine zA ?_
  refine zS (zIA rfl rfl rfl (by omega) (Q06 hx)) ?_
  refine zA ?_
  refine zca hΓc (Qe2 fs (by omega) x (h.b x (List.mem_of_getElem? hx)) main) hou ?_
  refine zM ?_
  exact cInv ⟨fs.length - (j+1),j+1,_root_.id,by omega,⟨by omega,rfl⟩,LessR.of rfl zFS (by simp) zLO rfl rfl hou⟩
 refine zA ?_
 exact APure.fin rfl (WkF.ofEq rfl) (by simp) hou rfl
set_option maxRecDepth 100000
def clA (a:Int):Tr:=.mk 15 1 [] [tW a] []
def b0A (a b:Int):Tr:=.mk 3 0 [] [clA a,tW b] []
def b1:Tr:=.mk 8 0 [] [.mk 16 0 [] [tV 1] [],tV 2] []
def fnsOf (t:Tr):List Fun:=[⟨[],t⟩,⟨[1,2],b1⟩]
def prgOf (t:Tr):List FnD:=[⟨-1,[],listT [] t⟩,⟨-1,[1,2],listT [] b1⟩]
theorem Qhk{flat:Bool}{e:List Ex}{y:Ex}(ho:y.op=1)(h1:y.binds=[])(h2:y.kids=[])(h3:y.alts=[])(hn:inW y.n):Q0q flat e y=0:=by
 obtain⟨o,n,b,ks,al⟩:=y
 simp only at ho h1 h2 h3 hn
 subst ho h1 h2 h3
 unfold inW at hn
 have hb:between n (-1073741824) 1073741823=true:=by simp[between];omega
 cases flat <;> simp[Q0q,Q0z,Go.CoreX.shape,wants,ranges,lowN,highN,hb,fields,Q4c,Q3f]
def leafW (x:Ex):Prop:=x.op=1->x.binds=[]/\x.kids=[]/\x.alts=[]/\inW x.n
theorem Qj0{e:List Ex}{ps:List Int}(h1:Q22 e=0)(hw:∀x∈e,leafW x)(h2:(e.all fun x=>x.op==1||Q0q true e x==0)=true)(h3:Q58 (ps++Q0g e)=false)(h4:((Q3l (grow e)).all fun n=>ps.contains n)=true):body e ps true=0:=by
 have h5:∀x∈e,Q0q true e x=0:=fun y hy=>by
  have h:=List.all_eq_true.1 h2 y hy
  rw[Bool.or_eq_true]at h
  rcases h with h|h
  ·have ho:y.op=1:=by simpa using h
   obtain⟨g1,g2,g3,g4⟩:=hw y hy ho
   exact Qhk ho g1 g2 g3 g4
  ·simpa using h
 unfold body
 rw[if_neg (by simpa using h1),if_neg (by simpa using (Q27 _ _).2 h5),if_neg (by rw[h3];simp),if_pos h4]
theorem ls1:listT [] b1=[⟨0,1,[],[],[]⟩,⟨16,0,[],[0],[]⟩,⟨0,2,[],[],[]⟩,⟨8,0,[],[1,2],[]⟩]:=rfl
theorem lsA(a b:Int):listT [] (b0A a b)=[⟨1,a,[],[],[]⟩,⟨15,1,[],[0],[]⟩,⟨1,b,[],[],[]⟩,⟨3,0,[],[1,2],[]⟩]:=rfl
theorem ok1(t:Tr):FnOkD (prgOf t) ⟨-1,[1,2],listT [] b1⟩ where
 n:=by decide
 pl:=by decide
 pr:=by intro x hx;simp at hx;omega
 okb:=Qcg (Qb3 _ (by simp[b1,tV,okT,okTs])) (by simp[b1,tV,cntN,cntNs])
 b:=by decide +kernel
 c:=by
  intro x hx ho
  rw[ls1]at hx
  simp at hx
  rcases hx with rfl|rfl|rfl|rfl <;> simp at ho
theorem okA{a b:Int}(ha:inW a)(hb:inW b):FnOkD (prgOf (b0A a b)) ⟨-1,[],listT [] (b0A a b)⟩ where
 n:=by simp
 pl:=by simp
 pr:=by intro x hx;simp at hx
 okb:=Qcg (Qb3 _ (by simp[b0A,clA,tW,okT,okTs])) (by simp[b0A,clA,tW,cntN,cntNs])
 b := Qj0 (by kernel_rfl) (by
   intro x hx ho
   rw[lsA]at hx
   simp at hx
   rcases hx with rfl|rfl|rfl|rfl <;> simp at ho <;> simp[ha,hb]) (by kernel_rfl) (by kernel_rfl) (by kernel_rfl)
 c:=by
  intro x hx ho
  rw[lsA]at hx
  simp at hx
  rcases hx with rfl|rfl|rfl|rfl <;> simp at ho
  exact⟨1,_,rfl,rfl,by simp,by simp⟩
def fragNB (fns:List Fun)(l:Lab):Bool:=
 Go.CoreX.shape ⟨l.op,l.n,l.binds,l.ops,l.alts⟩&&(l.op==0||l.op==3||l.op==8||l.op==14||l.op==15||l.op==16)&&(!(l.op==8)||l.n==0)&&decide (l.ops.length<=1048576)&&(!(l.op==14||l.op==15)||(decide (0<=l.n)&&decide (l.n < fns.length)))&&(!(l.op==14)||((fns.getD l.n.toNat ⟨[],default⟩).params.length==l.ops.length))&&(!(l.op==16)||decide (0<=l.n))
theorem Q35{fns:List Fun}{l:Lab}(h:fragNB fns l=true):FragN fns l:=by
 unfold fragNB at h
 simp only[Bool.and_eq_true,Bool.or_eq_true,Bool.not_eq_true',decide_eq_true_eq,beq_iff_eq,beq_eq_false_iff_ne,Bool.or_eq_false_iff]at h
 obtain⟨⟨⟨⟨⟨⟨h1,h2⟩,h3⟩,h4⟩,h5⟩,h6⟩,h7⟩:=h
 refine⟨Qf0 h1,by omega,fun h=>?_,fun h=>?_,h4,fun h=>?_,fun h=>?_,fun h=>?_⟩
 ·rcases h3 with h3|h3
  ·exact absurd h h3
  ·exact h3
 ·omega
 ·rcases h5 with h5|h5
  ·omega
  ·exact h5
 ·rcases h6 with h6|h6
  ·exact absurd h h6
  ·exact h6
 ·rcases h7 with h7|h7
  ·exact absurd h h7
  ·exact h7
theorem fragNW{fns:List Fun}{n:Int}(h:inW n):allT (FragN fns) (tW n):=by
 refine⟨⟨Qf0 (by simp[Go.CoreX.shape,wants]),by simp,fun h=>by simp at h,fun _=>h,by simp,fun h=>by simp at h,fun h=>by simp at h,fun h=>by simp at h⟩,trivial⟩
theorem frag1(t:Tr):allT (FragN (fnsOf t)) b1:=
 ⟨Q35 rfl,⟨Q35 rfl,⟨Q35 rfl,trivial⟩,trivial⟩,⟨Q35 rfl,trivial⟩,trivial⟩
theorem fnsA{a b:Int}(ha:inW a)(hb:inW b):FnsOk (fnsOf (b0A a b)) where
 b:=by
  intro f hf
  simp[fnsOf]at hf
  rcases hf with rfl|rfl
  ·exact⟨Q35 rfl,⟨Q35 rfl,fragNW ha,trivial⟩,fragNW hb,trivial⟩
  ·exact frag1 _
 p:=by intro f hf;simp[fnsOf]at hf;rcases hf with rfl|rfl <;> simp
theorem goA(a b:Int):goX 99 (fnsOf (b0A a b)) 60 ⟨.ev (b0A a b) .nil,[],[],0,[]⟩=some (.done ⟨.rt (.word (wrapW (a+b))),[],[],8,[]⟩ (.word (wrapW (a+b)))):=by kernel_rfl
@[simp] theorem Q9y (ρ:Nat->Nat) (l:List Fun):renS ρ (l.map cFun)=l.map cFun:=Q1f ρ _ (Q84 l)
def funD (f:FnD):Fun:=⟨f.params,grow f.body⟩
def funsD (fs:List FnD):List Fun:=fs.map funD
theorem Q73(fs:List FnD):(funsD fs).length=fs.length:=by simp[funsD]
theorem Q86{fs:List FnD}{j:Nat}{x:FnD}(h:fs[j]?=some x):funsD (fs.take (j+1))=funsD (fs.take j)++[funD x]:=by rw[Q2e h];simp[funsD]
theorem Qd7{fs:List FnD}{i:Nat}{f:FnD}(h:fs[i]?=some f):((funsD fs).map cFun)[i]?=some [.sl 1 (f.params.map cI),.box (cTr (grow f.body))]:=by
 rw[List.getElem?_map,funsD,List.getElem?_map,h];rfl
theorem Qja(t:Tr)(fu:Int)(ac:AC)(ha:ac.ids isO):MR fu ⟨ac,1⟩ (ouOf [.cells (mC (.box (cTr t)) nilPE (.lit .nilIface) nilPE [] 0 fu ⟨ac,1⟩),.tok 3 1 0]) (fun _=>none) [] ⟨.ev t .nil,[],[],0,[]⟩:=by
 refine⟨⟨1,_,_,_,_,.ev t .nil nilPE (.lit .nilIface) .nil,.nil,⟨⟨by simp,trivial,trivial,trivial⟩,rfl,⟨fun k cs hk=>(by cases hk),fun k o hk=>?_,rfl,fun a k n h=>(by simp at h),fun a k n h=>rfl,fun a b k n n' h=>(by simp at h),⟨rfl,fun a k n h=>(by simp at h)⟩,fun cs hc es i hi=>?_,fun k o hk=>?_⟩⟩⟩⟩
 ·match k,hk with
  |0,hk=>cases hk;exact⟨by simp,trivial,trivial,trivial,⟨trivial,trivial⟩,trivial,trivial,ha,trivial⟩
  |1,hk=>cases hk;trivial
  |k+2,hk=>simp[ouOf]at hk
 ·cases hc
  cases hi
  exact⟨1,rfl,Nat.le_refl _,rfl,rfl,fun a k n h=>by simp at h⟩
 ·match k,hk with
  |0,hk=>cases hk;trivial
  |1,hk=>cases hk;trivial
  |k+2,hk=>simp[ouOf]at hk
structure PRuns (fu:Int)(fs:List FnD)(main:Nat)(mf:Ms)(vf:Vl):Prop where
 ok:PrgOk fs main
 fns:FnsOk (funsD fs)
 fu0:1<=fu/\fu<=1000000
 go:∃g f,fs[main]?=some f/\goX fu (funsD fs) g ⟨.ev (grow f.body) .nil,[],[],0,[]⟩=some (.done mf vf)
 out:mf.out.length<=1000
 st:mf.steps<=fu
theorem Qeg{fu:Int}{fs:List FnD}{main:Nat}{mf:Ms}{vf:Vl}(h:PRuns fu fs main mf vf):
  APure Tryz.prog Γc 18 [.agg [.sl 3 (fs.map encF),int (main:Int)],.one (int fu)] (.tup [.agg [.sl 1 (mf.out.map cI),int 0,int (lastV vf)],.one (int mf.steps),.one (int 0)]):=by
 obtain⟨g,f0,hf0,hg⟩:=h.go
 have hfl:=h.ok.l
 have hac:(AC.sl 2 ((funsD fs).map cFun)).ids isO:=by show idsS isO _;exact Q84 _
 have hM0:=Qja (grow f0.body) fu (.sl 2 ((funsD fs).map cFun)) hac
 have hkc:=kidC3 hΓc (fu:=fu) h.fns
 have hsc:=startC3 hΓc (fu:=fu) h.fns
 have hbm:allT (FragN (funsD fs)) (grow f0.body):=h.fns.b _ (List.mem_map.2 ⟨f0,List.mem_of_getElem? hf0,rfl⟩)
 have hgm:gM (G3 (funsD fs)) ⟨.ev (grow f0.body) .nil,[],[],0,[]⟩:=⟨⟨hbm,trivial⟩,trivial,fun r hr=>by cases hr⟩
 have hrun:=run_ok hΓc (ac:=.sl 2 ((funsD fs).map cFun)) hac (G3ok h.fns) (fun t ht=>G3opn ht) hkc hsc hM0 hgm hg (fun hr=>hr.elim) h.out ⟨by have:=h.fu0;omega,h.fu0.2⟩ (by simp) h.st
 have hwh0:=Qhm (ac:=.sl 2 ((funsD fs).map cFun)) (kt0:=1) hΓc hrun
 have hwh:AFn Tryz.prog Γc 23 [.one (.ptr (.o 0) 0)] (ouOf [.cells (mC (.box (cTr (grow f0.body))) nilPE (.lit .nilIface) nilPE [] 0 fu ⟨.sl 2 ((funsD fs).map cFun),1⟩),.tok 3 1 0]) (fun r ou'=>r=.tup [.agg [.sl 1 (mf.out.map cI),int 0,int (lastV vf)],.one (int mf.steps),.one (int 0)]/\ou'=ouOf [.dead,.dead]):=by
  refine AFn.forgetD (AFn.mono hwh0 fun r ou' hq=>⟨ouOf [.dead,.dead],fun m o hmo=>?_,hq,rfl⟩)
  match m,hmo with
  |0,hmo=>cases hmo;exact .inr ⟨rfl,_,rfl⟩
  |1,hmo=>cases hmo;exact .inr ⟨rfl,_,rfl⟩
  |m+2,hmo=>simp[ouOf]at hmo
 intro ou
 refine AFn.walk 53 tabOk Tryz.func18 rfl (by kernel_rfl) rfl rfl fun hou=>?_
 refine zA ?_
 refine ACode.grow 2 7 97 2 rfl rfl ?_
 refine ACode.loopR hΓc (α:=Nat) (fun j=>[(16,.one (int j)),(15,.one (int (fs.map encF).length)),(14,.one (.sl 3 (fs.map encF))),(7,.one (.ptr (.l 2) 0)),(4,.one (.ptr (.l 1) 0)),(2,.one (.ptr (.l 0) 0)),(6,.one (int 0)),(5,.one (int 0))])
  (fun j=>⟨4,[(3,.tok 97 2 j),(2,.cells [nilPE,nilPE,.lit .nilIface,nilPE,nilS,int 0,int fu,.gs 2 ((funsD (fs.take j)).map cFun) (.l 3)]),(1,.cells [nilS,int 0,int 0]),(0,.cells [.sl 3 (fs.map encF),int (main:Int)])],ou⟩) (fun m j=>j<=fs.length/\m=fs.length - j) (a0:=0) (ρ:=_root_.id) ⟨by omega,rfl⟩
  (LessR.of rfl zFS (by simp) ?_ rfl rfl hou) fun m j hj=>?_
 ·repeat' first|exact LoSub.nil|refine zlc ?_|refine zld ?_ ?_|rfl
  all_goals (simp[AObj.ren,renL,AC.ren];rfl)
 obtain⟨hjl,rfl⟩:=hj
 refine zA ?_
 refine ACode.cond rfl (fun hb2=>?_) (fun hb2=>?_)
 ·have hlt:j < fs.length:=by simpa using hb2
  obtain⟨x,hx⟩:=Q01 hlt
  have hxb:=h.ok.b x (List.mem_of_getElem? hx)
  have t1:=Q4q hxb.b
  have hgr:=Qbp hΓc x.body hxb.okb.eo t1.k t1.ne
  have hjl2:((funsD (fs.take j)).map cFun).length=j:=by simp[Q73];omega
  refine zA ?_
  refine zS (zIA rfl rfl rfl (by omega) (Q06 hx)) ?_
  refine zA ?_
  refine ACode.drawXH (va:=.one (.gs 2 ((funsD (fs.take j)).map cFun++[cFun (funD x)]) (.l 5))) (σ1:=((((St.mk 4 [(3,.tok 97 2 j),(2,.cells [nilPE,nilPE,.lit .nilIface,nilPE,nilS,int 0,int fu,.gs 2 ((funsD (fs.take j)).map cFun) (.l 3)]),(1,.cells [nilS,int 0,int 0]),(0,.cells [.sl 3 (fs.map encF),int (main:Int)])] ou).push (.cells (ti36.zero.map .lit))).set (.l 4) (.cells (encF x))).set (.l 3) .dead).push (.tok 97 2 ((funsD (fs.take j)).map cFun++[cFun (funD x)]).length))
   tabOk 13 12 [(9,.one (.box (cTr (grow x.body))))] follows (by kernel_rfl) rfl rfl rfl rfl rfl rfl rfl ?_ ?_ ?_ ?_
  ·refine HStep.plain rfl (AStep.append (s:=2) (es:=(funsD (fs.take j)).map cFun) (news:=[cFun (funD x)]) (ti:=ti70) (σ:=((St.mk 4 [(3,.tok 97 2 j),(2,.cells [nilPE,nilPE,.lit .nilIface,nilPE,nilS,int 0,int fu,.gs 2 ((funsD (fs.take j)).map cFun) (.l 3)]),(1,.cells [nilS,int 0,int 0]),(0,.cells [.sl 3 (fs.map encF),int (main:Int)])] ou).push (.cells (ti36.zero.map .lit))).set (.l 4) (.cells (encF x))) tabOk rfl rfl rfl rfl rfl rfl (Base.gs' _ 97 2 ((funsD (fs.take j)).map cFun) (.l 3) rfl hjl2.symm) (.sl _ _) rfl ?_ ?_)
   ·rw[hjl2];show (j+1) * 32<=_;omega
   ·rw[hjl2];show j+1<=_;omega
  ·exact .call hΓc hgr hou (by simp) rfl rfl rfl rfl rfl rfl .nil
  ·exact .call hΓc hgr hou (by simp) rfl rfl rfl rfl rfl rfl .nil
  refine zM ?_
  refine cInv ⟨fs.length - (j+1),j+1,fun k=>if k=3 then 5 else k,by omega,⟨by omega,rfl⟩,LessR.of rfl zFS (by simp) ?_ rfl rfl hou⟩
  repeat' first|exact LoSub.nil|refine zlc ?_|refine zld ?_ ?_|rfl
  ·simp only[AObj.ren,List.length_append,hjl2];rfl
  ·rw[Q86 hx];simp only[AObj.ren,renL,AC.ren,Q9y];rw[List.map_append];rfl
 have hlt:j=fs.length:=by simp at hb2;omega
 subst hlt
 rw[List.take_length]
 refine zA ?_
 refine ACode.wkObj (.l 2) rfl (cs':=[nilPE,nilPE,.lit .nilIface,nilPE,nilS,int 0,int fu,.sl 2 ((funsD fs).map cFun)]) (fun w C xs h=>(show WkL _ _ from .cons (.refl _) (.cons (.refl _) (.cons (.refl _) (.cons (.refl _) (.cons (.refl _) (.cons (.refl _) (.cons (.refl _) (.cons (.gsE rfl) .nil)))))))) w C xs h) ?_
 refine ACode.drawX tabOk 12 [(7,.one (.box (cFun (funD f0))))] follows (by kernel_rfl) rfl rfl rfl rfl ?_ ?_
 ·exact .step rfl (zHP (zIA rfl rfl rfl (Int.natCast_nonneg main) (Qd7 hf0))) .nil
 repeat ((fail_if_success ((with_reducible refine oj ?_);refine AOps.atDst 49 rfl ?_));first|refine zO ?_)
 refine AOps.growO 2 4 3 1 rfl rfl ?_
 refine AOps.callR [.l 2,.l 4] [.one (.ptr (.o 0) 0)] [.cells (mC (.box (cTr (grow f0.body))) nilPE (.lit .nilIface) nilPE [] 0 fu ⟨.sl 2 ((funsD fs).map cFun),1⟩),.tok 3 1 0] hΓcF rfl rfl rfl rfl rfl rfl ?_ ?_ ?_ ?_ ?_ hwh ?_
 ·rfl
 ·simp[inO]
 ·simp
 ·refine⟨?_,rfl,trivial⟩
  simp only[AObj.sub,mC,subL,AC.sub,nameOf,List.map_nil,subS]
  rw[Q1m _ _ (by simp),Q4v _ _ (Q49 _ _)]
  rfl
 ·simp[inO,mC]
  exact Q49 _ _
 intro r ou' hq
 obtain⟨rfl,rfl⟩:=hq
 refine⟨[.dead,.dead],rfl,rfl,by simp,by simp,?_⟩
 rw[show FV.sub (nameOf [.l 2,.l 4]) (.tup [.agg [.sl 1 (mf.out.map cI),int 0,int (lastV vf)],.one (int mf.steps),.one (int 0)])=.tup [.agg [.sl 1 (mf.out.map cI),int 0,int (lastV vf)],.one (int mf.steps),.one (int 0)]from FV.sub_pure _ _ (by simp)]
 refine zA ?_
 exact APure.fin rfl (WkF.ofEq rfl) (by simp) hou rfl
theorem fRun_ok{fu:Int}{fs:List FnD}{main:Nat}{mf:Ms}{vf:Vl}(h:PRuns fu fs main mf vf):
  APure Tryz.prog Γc 7 [.agg [.sl 3 (fs.map encF),int (main:Int)],.one (int fu)] (.tup [.agg [.sl 1 (mf.out.map cI),int 0,int (lastV vf)],.one (int mf.steps),.one (int 0)]):=by
 have hfu:=h.fu0
 intro ou
 refine AFn.walk 27 tabOk Tryz.func7 rfl (by kernel_rfl) rfl rfl fun hou=>?_
 refine zA ?_
 refine zca hΓc (Q78 fs main h.ok) hou ?_
 refine zM ?_
 have hf1:decide (fu < 1)=false:=by simp;omega
 refine AOps.wk 16 rfl (y:=.one (.lit (.bool false))) (.ofEq (by show FV.one (.lit (.bool (decide (fu < 1))))=_;rw[hf1])) ?_
 refine zM ?_
 refine ACode.cond rfl (fun hb=>absurd (show 1000000 < fu by simpa using hb) (by omega)) (fun _=>?_)
 refine zM ?_
 refine zca hΓc (Qeg h) hou ?_
 refine zM ?_
 exact APure.fin rfl (WkF.ofEq rfl) (by simp) hou rfl
theorem NF2(o n:Int)(a b:Tr):APure Tryz.prog Γc 37 [.one (int o),.one (int n),.one (.sl 1 [[.box (cNd a)],[.box (cNd b)]])] (.one (.box (cNd (.mk o n [] [a,b] [])))):=by
 have:=N_ok (Γ:=Γc) o n [a,b]
 rwa [Q3y]at this
theorem NF1(o n:Int)(a:Tr):APure Tryz.prog Γc 37 [.one (int o),.one (int n),.one (.sl 1 [[.box (cNd a)]])] (.one (.box (cNd (.mk o n [] [a] [])))):=by
 have:=N_ok (Γ:=Γc) o n [a]
 rwa [Q3y]at this
theorem ok_b1:okT b1:=by simp[b1,tV,okT,okTs]
theorem ok_b0A(a b:Int):okT (b0A a b):=by simp[b0A,clA,tW,okT,okTs]
def prgC (fs:List FnD):List AC:=vec 3 (fs.map encF) fs.length
def PairQ (ou:Outer)(r:FV)(ou':Outer):Prop:=∃k,ou k=none/\r=.agg [.arr (.o k) 3 0 2 2,int 0]/\ou'=updO ou k (.cells (prgC (prgOf (b0A 4 3))))
theorem Pair_ok(ou:Outer):AFn Tryz.prog Γc 19 [] ou (PairQ ou):=by
 refine AFn.walk 24 tabOk Tryz.func19 rfl (by kernel_rfl) rfl rfl fun hou=>?_
 refine zA ?_
 refine zca hΓc (V_ok hΓc 1) hou ?_
 refine zA ?_
 refine zca hΓc (NF1 16 0 (tV 1)) hou ?_
 refine zA ?_
 refine zca hΓc (V_ok hΓc 2) hou ?_
 refine zA ?_
 refine zca hΓc (NF2 8 0 (.mk 16 0 [] [tV 1] []) (tV 2)) hou ?_
 refine zA ?_
 refine zca hΓc (Q7j hΓc b1 ok_b1 (by rw[ls1];simp)) hou ?_
 refine zA ?_
 refine zca hΓc (W_ok hΓc 4) hou ?_
 refine zA ?_
 refine zca hΓc (NF1 15 1 (tW 4)) hou ?_
 refine zA ?_
 refine zca hΓc (W_ok hΓc 3) hou ?_
 refine zA ?_
 refine zca hΓc (NF2 3 0 (clA 4) (tW 3)) hou ?_
 refine zA ?_
 refine zca hΓc (Q7j hΓc (b0A 4 3) (ok_b0A 4 3) (by rw[lsA];simp)) hou ?_
 repeat ((fail_if_success ((with_reducible refine oj ?_);refine AOps.atDst 22 rfl ?_));first|refine zO ?_)
 refine zS (AStep.buildOwn (s:=3) tabOk rfl rfl rfl rfl rfl rfl rfl) ?_
 refine AOps.wkObj (.l 1) rfl (cs':=prgC (prgOf (b0A 4 3))) (fun w C xs h=>(show WkL _ _ from .cons (.refl _) (.cons (.nilS 1) (.cons (.refl _) (.cons (.refl _) (.cons (.refl _) (.cons (.refl _) .nil)))))) w C xs h) ?_
 have hids:AObj.ids isO (.cells (prgC (prgOf (b0A 4 3)))):=Q07 _ (Q83 _)
 refine AOps.cede 1 (show 1 < 2 by omega) fun k hk=>⟨[(22,.one (.arr (.o k) 3 0 2 2)),(0,.one (.ptr (.l 0) 0))],⟨2,[(0,.cells [nilS,int 0])],updO ou k (.cells (prgC (prgOf (b0A 4 3))))⟩,⟨CedFr.get (.cons rfl rfl (.cons rfl rfl .nil)),rfl,fun i x hx=>?_⟩,?_⟩
 ·have hk:ou k=none:=hk
  cases i with
  |l m=>
   by_cases e:0=m
   ·subst e;cases hx;exact⟨.l 0,_,rfl,rfl,rfl⟩
   ·simp[St.get,lookL,Q08 e]at hx
  |o m=>
   have hx':updO ou k (.cells (prgC (prgOf (b0A 4 3)))) m=some x:=hx
   by_cases e:k=m
   ·subst e;rw[Q03]at hx';cases hx'
    exact⟨.l 1,_,rfl,rfl,(AObj.sub_o _ hids).symm⟩
   ·rw[Q05 _ e]at hx'
    exact⟨.o m,x,hx',rfl,(AObj.sub_o x (hou m x hx')).symm⟩
 refine zA ?_
 exact AFn.fin' rfl (.refl _) (by simp) (Q0i hou hids) ⟨k,hk,rfl,rfl⟩
theorem Qd3(t:Tr):funsD (prgOf t)=fnsOf t:=by
 simp only[funsD,prgOf,fnsOf,List.map_cons,List.map_nil,funD]
 rw[Q3v,Q3v]
def mfR (v:Int):Ms:=⟨.rt (.word v),[],[],8,[]⟩
theorem prgOkA{a b:Int}(ha:inW a)(hb:inW b):PrgOk (prgOf (b0A a b)) 0 where
 l:=by simp[prgOf]
 b:=by
  intro f hf
  simp only[prgOf,List.mem_cons,List.not_mem_nil,or_false]at hf
  rcases hf with rfl|rfl
  ·exact okA ha hb
  ·exact ok1 _
 m:=⟨_,rfl,rfl⟩
theorem runsA{a b:Int}(ha:inW a)(hb:inW b):PRuns 99 (prgOf (b0A a b)) 0 (mfR (wrapW (a+b))) (.word (wrapW (a+b))) where
 ok:=prgOkA ha hb
 fns:=by rw[Qd3];exact fnsA ha hb
 fu0:=by omega
 go:=⟨60,⟨-1,[],listT [] (b0A a b)⟩,rfl,by rw[Qd3];show goX 99 _ 60 ⟨.ev (grow (listT [] (b0A a b))) .nil,[],[],0,[]⟩=_;rw[Q3v];exact goA a b⟩
 out:=by simp[mfR]
 st:=by simp[mfR]
abbrev resN (v:Int):FV:=.tup [.agg [.sl 1 [],int 0,int v],.one (int 8),.one (int 0)]
theorem Qfp(v:Int):Plain (resN v):=fun w w' C C' u h=>by
 simp only[resN,RF,RFs,RV,R]at h ⊢
 simpa using h
theorem runA_ok{a b:Int}(ha:inW a)(hb:inW b):APure Tryz.prog Γc 7 [.agg [.sl 3 ((prgOf (b0A a b)).map encF),int 0],.one (int 99)] (resN (wrapW (a+b))):=fRun_ok (runsA ha hb)
theorem lendP{σ:St}{i:Abs.Id}{t:Tr}{v:FV}(hg:σ.get i=some (.cells (prgC (prgOf t))))(hv:v.ids isO):Q5d σ [.agg [.arr i 3 0 2 2,int 0],v] [.agg [.sl 3 ((prgOf t).map encF),int 0],v]:=by
 refine .cons (.agg (.cons (.arr hg rfl (fun x hx=>?_) (Q83 _)) (.cons (.refl (by simp)) .nil))) (.cons (.refl hv) .nil)
 obtain⟨f,_,rfl⟩:=List.mem_map.1 hx
 rfl
theorem Q4p:APure Tryz.prog Γc 8 [] (.one (.lit (.bool true))):=by
 intro ou
 refine AFn.walk 17 tabOk Tryz.func8 rfl (by kernel_rfl) rfl rfl fun hou=>?_
 refine zA ?_
 refine AOps.call1 hΓc rfl rfl rfl rfl rfl rfl rfl trivial hou (Pair_ok ou) fun r ou' hq _ how=>?_
 obtain⟨k,hk,rfl,rfl⟩:=hq
 refine AOps.adopt hk (Q07 _ (Q97 _ _)) ?_
 refine AOps.wk 5 rfl (y:=.agg [.arr (.l 0) 3 0 2 2,int 0]) (.ofEq (by simp[FV.sub,AC.sub,subL,toL])) ?_
 have hr:APure Tryz.prog Γc 7 [.agg [.sl 3 ((prgOf (b0A 4 3)).map encF),int 0],.one (int 99)] (resN 7):=runA_ok (a:=4) (b:=3) (by unfold inW;omega) (by unfold inW;omega)
 refine AOps.callS hΓc hr (Qfp 7) rfl rfl rfl rfl rfl rfl (lendP (t:=b0A 4 3) rfl (by simp)) ?_
 refine zM ?_
 exact APure.fin rfl (WkF.ofEq rfl) (by simp) hou rfl
instance:Inhabited FnD:=⟨⟨0,[],[]⟩⟩
structure Bs where
 fns:List FnD
 next:Int
 bad:Bool
def addN1 (group out:List Int)(n:Int):List Int:=if (!out.contains n&&!group.contains n)=true then out++[n]else out
def outF (group out:List Int)(f:Tr):List Int:=(Q3l f).foldl (addN1 group) out
def outside (fns:List Tr)(group:List Int):List Int:=(fns.foldl (outF group) []).mergeSort fun x y=>decide (x<=y)
structure MovB (b b':Bs)(k:Nat):Prop where
 len:b'.fns.length=b.fns.length+k
 nx:b'.next=b.next+k
theorem MovB.trans{a b c:Bs}{i j:Nat}(h:MovB a b i)(h2:MovB b c j):MovB a c (i+j):=⟨by rw[h2.len,h.len];omega,by rw[h2.nx,h.nx];push_cast;omega⟩
def encPl (p:Int×Int):FV:=.agg [int p.1,int p.2]
theorem Qgy(b:Int×Int)(p:Abs.Id->Prop):(encPl b).ids p:=by simp[encPl]
@[simp] theorem ids_mapP (p:Abs.Id->Prop) (ck:Nat) (l:List (Nat×Int×(Int×Int))):AObj.ids p (.map ck (encI encPl l)):=Q96 encPl Qgy p ck l
end Go.Proofs.YtkgjldchcbfpnaaGreatDoor
namespace Go.Abs
theorem AOps.stEq{E:Env}{ops:Array Oper}{l:List Oper}{K:Cont}{fr:Fr}{σ σ':St}(h:σ=σ')(k:AOps E ops l K fr σ'):AOps E ops l K fr σ:=h▸k
end Go.Abs
namespace Go.Proofs.YtkgjldchcbfpnaaGreatDoor
open Go Go.Abs Go.CoreX
structure Kp (ou ou':Outer)(kb kf kf':Nat):Prop where
 old:∀j,j≠kb->j≠kf->ou j≠none->ou' j=ou j
 nw:kf'=kf∨ou kf'=none
theorem Kp.trans{ou ou1 ou2:Outer}{kb kf kf1 kf2:Nat}(h:Kp ou ou1 kb kf kf1)(h2:Kp ou1 ou2 kb kf1 kf2)(hb:ou1 kb≠none):Kp ou ou2 kb kf kf2:=by
 refine⟨fun j j1 j2 j3=>?_,?_⟩
 ·have e1:=h.old j j1 j2 j3
  rw[h2.old j j1 (fun e=>?_) (by rw[e1];exact j3),e1]
  rcases h.nw with h3|h3
  ·exact j2 (e.trans h3)
  ·rw[←e]at h3;exact j3 h3
 ·rcases h2.nw with h3|h3
  ·rw[h3];exact h.nw
  ·by_cases e:kf2=kf
   ·exact .inl e
   ·refine .inr ?_
    cases h4:ou kf2 with
    |none=>rfl
    |some o=>
     have e2:kf2≠kb:=fun e=>by rw[e]at h3;exact hb h3
     have:=h.old kf2 e2 e (by rw[h4];simp)
     rw[h3,h4]at this;cases this
end Go.Proofs.YtkgjldchcbfpnaaGreatDoor
namespace Go.CoreX
end Go.CoreX
namespace Go.Proofs.YtkgjldchcbfpnaaGreatDoor
open Go Go.Abs Go.CoreX
variable {Γ:List (Nat×List AC)}
def BodyQ (e:List Ex):Prop:=e=[]∨∃T,okT T/\cntN T<=1099511627776/\e=listT [] T
def FnsW (l:List FnD):Prop:=∀f∈l,f.params.length<=1099511627776/\BodyQ f.body
theorem FnsW.app{l r:List FnD}(h:FnsW l)(h2:FnsW r):FnsW (l++r):=fun f hf=>(List.mem_append.1 hf).elim (h f) (h2 f)
theorem Qav(e:List Ex)(h:4096 < e.length)(hl:e.length<=1099511627776):APure Tryz.prog Γc 41 [.one (.sl 5 (e.map cEx))] (.one (int 2)):=by
 intro ou
 refine AFn.walk 93 tabOk Tryz.func41 rfl (by kernel_rfl) rfl rfl fun hou=>?_
 refine zA ?_
 refine ACode.cond rfl (fun hb=>?_) (fun hb=>absurd hb (by simp;omega))
 refine zA ?_
 exact APure.fin rfl (WkF.ofEq rfl) (by simp) hou rfl
theorem Qjd(e:List Ex)(h:4096 < e.length)(hl:e.length<=1099511627776)(params:List Int)(flat:Bool):APure Tryz.prog Γc 21 [.one (.sl 5 (e.map cEx)),.one (.sl 1 (params.map cI)),.one (.lit (.bool flat))] (.one (int 2)):=by
 intro ou
 refine AFn.walk 62 tabOk Tryz.func21 rfl (by kernel_rfl) rfl rfl fun hou=>?_
 refine zA ?_
 refine AOps.freeze1 (.l 0) 3 rfl rfl ?_
 refine zca hΓc (Qav e h hl) hou ?_
 refine zA ?_
 exact APure.fin rfl (WkF.ofEq rfl) (by simp) hou rfl
theorem Qec{e:List Ex}{ps:List Int}(h:body e ps true=0){x:Ex}(hx:x∈e)(ho:x.op=14∨x.op=15):0<=x.n:=by
 have h1:Q1u (Q0q true e) e=0:=by
  unfold body at h
  split at h
  ·rename_i h0;exact absurd h h0
  split at h
  ·rename_i h0;exact absurd h h0
  ·rename_i h0;simpa using h0
 have h2:=(Q27 _ _).1 h1 x hx
 have h3:Q0z e x=0:=by
  unfold Q0q at h2
  split at h2
  ·cases h2
  ·exact h2
 unfold Q0z at h3
 split at h3
 ·cases h3
 split at h3
 ·rename_i h0;exact absurd h3 h0
 rename_i h4
 have h4:ranges x=0:=by simpa using h4
 unfold ranges at h4
 split at h4
 ·cases h4
 rename_i h5
 have h6:between x.n (lowN x.op) (highN x.op)=true:=by simpa using h5
 have h7:lowN x.op=0:=by rcases ho with h|h <;> rw[h] <;> rfl
 rw[h7]at h6
 simp[between]at h6
 exact h6.1
end Go.Proofs.YtkgjldchcbfpnaaGreatDoor
