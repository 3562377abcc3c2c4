/- The evaluator's nodes without operations, handlers, rows and arrays: each acts as it should. -/
import Derived.Test.YtmdkenkhaicbeaaGreatDoorD10
import Derived.Test.YtmdkenkhaicbeaaGreatDoorChecked
import Derived.RangeFuncBox
import Derived.RangeFuncLeaves
import Derived.WalkKit
import Derived.OwnWalkIn
import Derived.TacticsInMore
import Derived.LoopNIn
import Derived.LoopIn
import Derived.KernelRfl
import Derived.Test.YtmdkenkhaicbeaaGreatDoorRows
import Derived.Lib.LaidTab
set_option maxRecDepth 10000
set_option linter.unusedVariables false
set_option linter.unusedSimpArgs false
namespace Go.Proofs.YtmdkenkhaicbeaaGreatDoor
open Go Go.Abs Go.CoreX
variable {Γ:List (Nat×List AC)}
structure FragL (hi:Bool)(l:Lab):Prop where
 sh:shpQ l
 op:0<=l.op/\l.op<=8∨hi=true/\(l.op=12∨l.op=13)
 pr:l.op=8->l.n=0∨l.n=1∨l.n=2∨l.n=5∨l.n=6∨l.n=7
 bl:l.binds.length<=1048576
 al:l.alts.length<=1048576
 ab:∀a∈l.alts,a.binds.length<=1048576
 kl:l.ops.length<=1048576
 wd:l.op=1->inW l.n
 rc:l.op=5->∀i,i < l.binds.length->l.ops[i]?=some 2
def G1 (hi:Bool):GP:={ p:=FragL hi,S:=fun _=>True,W:=inW,fns:=[],R:=hi=true }
theorem Qdj{a b:Int}(ha:inW a)(hb:inW b):inW (a.tmod b):=by
 have h1:(a.tmod b).natAbs<=a.natAbs:=by
  rw[Int.natAbs_tmod];exact Nat.mod_le _ _
 unfold inW at *
 have h2:-1073741824<=a.tmod b:=by
  rcases Int.le_total 0 a with h|h
  ·have:=Int.tmod_nonneg b h;omega
  ·omega
 have h3:a.tmod b<=1073741823:=by
  rcases Int.le_total 0 a with h|h
  ·omega
  ·have h4:a.tmod b=-((-a).tmod b):=by rw[Int.neg_tmod];omega
   have:=Int.tmod_nonneg b (show 0<=-a by omega)
   omega
 exact⟨h2,h3⟩
theorem G1ok(hi:Bool):GPok (G1 hi) where
 sh:=fun l h=>h.sh
 bnd:=fun _ _ _ _=>trivial
 wd:=fun l h h1=>h.wd h1
 rc:=fun l h h1=>h.rc h1
 wr:=fun n=>by show inW (wrapW n);unfold inW wrapW;omega
 wl:=fun n h0 h1=>by show inW n;unfold inW;omega
 wm:=fun a b ha hb=>Qdj ha hb
 fn:=fun f hf=>by cases hf
 cl:=fun l h ho=>by
  exfalso
  rcases h.op with h1|⟨_,h1⟩ <;> omega
 rs:=fun l h ho=>by
  rcases h.op with h1|⟨h1,_⟩
  ·omega
  ·exact h1
theorem G1opn{hi:Bool}{t:Tr}(h:allT (G1 hi).p t):opdN t<=1048576:=by
 have F:FragL hi ⟨t.op,t.n,t.binds,t.kids.map Tr.op,t.alts⟩:=Q0n h
 have:=F.kl
 simp at this
 unfold opdN
 split <;> omega
section
variable {fu:Int}{ac:AC}
structure MoreC (hi:Bool)(fu:Int)(ac:AC)(Γ:List (Nat×List AC)):Prop where
 res:hi=true->∀(ou:Outer) (H:Hm) (nm:Nm2) (m:Ms) (k fs:List Fm) (kc tc0 ec0 vc0:AC) (kt:Nat) (vc:AC) (a:Vl) (c:AC),M0 fu ⟨ac,kt⟩ ou H nm m tc0 ec0 vc0 kc->KR H nm k kc->VR H nm (.res fs) vc->VR H nm a c->gFs (G1 hi) fs->(fs++k).length<=1048576->
  AFn Tryz.prog Γ 156 [.one (.ptr (.o 0) 0),.one vc,.one (.sl 1 [[c]])] ou (StQ fu ⟨ac,kt⟩ H nm (.ok { m with c:=.rt a,k:=fs++k }))
 kid:hi=true->∀(ou:Outer) (H:Hm) (nm:Nm2) (m m':Ms) (t:Tr) (e:En) (d:List Vl) (k:List Fm) (ec kc tc0 ec0 vc0 kc0:AC) (dc:List (List AC)) (kt:Nat),M0 fu ⟨ac,kt⟩ ou H nm m tc0 ec0 vc0 kc0->ER H nm e ec->VsR H nm d dc->KR H nm k kc->
  allT (FragL hi) t->gFs (G1 hi) k->k.length<=1048576->d.length=1->t.op=12∨t.op=13->kidM fu [] m (.mk t e d) k=.ok m'->AFn Tryz.prog Γ 118 [.one (.ptr (.o 0) 0),.one (.box [.box (cTr t),ec,.sl 1 dc,kc])] ou (StQ fu ⟨ac,kt⟩ H nm (.ok m'))
theorem list1{α:Type}{l:List α}(h:l.length=1):∃a,l=[a]:=by
 match l,h with
 |[a],_=>exact⟨a,rfl⟩
theorem list2{α:Type}{l:List α}(h:l.length=2):∃a b,l=[a,b]:=by
 match l,h with
 |[a,b],_=>exact⟨a,b,rfl⟩
theorem Qc7{v:Vl}{n:Int}(h:wordV v=.ok n):v=.word n:=by
 cases v with
 |word m=>cases h;rfl
 |_=>cases h
theorem Qf6{m m':Ms}{n:Int}{a b v:Vl}(hn:n=0∨n=1∨n=2∨n=5∨n=6)(h:primM fu m n [a,b]=.ok (m',v)):∃x y,a=.word x/\b=.word y:=by
 cases hx:wordV a with
 |error c=>
  exfalso
  rcases hn with rfl|rfl|rfl|rfl|rfl <;> simp[primM,hx,bind,Except.bind]at h
 |ok x=>
  cases hy:wordV b with
  |error c=>
   exfalso
   rcases hn with rfl|rfl|rfl|rfl|rfl <;> simp[primM,hx,hy,bind,Except.bind]at h
  |ok y=>exact⟨x,y,Qc7 hx,Qc7 hy⟩
theorem kidC(hΓ:∀g cs,(g,cs)∈Γ->idsL isO cs)(hac:ac.ids isO){hi:Bool}(hmore:MoreC hi fu ac Γ):KidC fu ac (G1 hi) Γ:=by
 intro ou H nm m m' t e d k ec kc tc0 ec0 vc0 kc0 dc kt h0 he hd hk ht hge hgd hle hn hgk hkb hol hx hnx
 have F:FragL hi ⟨t.op,t.n,t.binds,t.kids.map Tr.op,t.alts⟩:=Q0n ht
 have hsh:=g_sh (G1ok hi) ht
 have hopk:=g_opN (G1ok hi) ht
 have hfc:(FcT.mk ac kt).ids isO:=hac
 have hx0:kidM fu [] m (.mk t e d) k=.ok m':=hx
 by_cases hlt:d.length < opdN t
 ·obtain⟨s,hs⟩:=Q01 (Nat.lt_of_lt_of_le hlt hopk)
  have:=AFnP.okStep (Qec (fns:=[]) hΓ h0 hfc he hd hk hlt hs) hx0
  rwa [hx0]at this
 have hl:d.length=opdN t:=by omega
 have hnl:¬(Fm.mk t e d).done.length < opdN (Fm.mk t e d).t:=hlt
 obtain⟨o,n,b,ks,al⟩:=t
 simp only[Tr.op,Tr.n,Tr.binds,Tr.kids,Tr.alts]at F hsh
 have hops:o=3∨o=4∨o=6∨o=7∨o=8∨(hi=true/\(o=12∨o=13)):=by
  have h1:=F.op
  unfold nLf at hn
  simp only[Tr.op]at hn
  simp only at h1
  rcases h1 with h1|h1
  ·have:o=3∨o=4∨o=6∨o=7∨o=8:=by omega
   rcases this with h|h|h|h|h <;> simp[h]
  ·exact .inr (.inr (.inr (.inr (.inr h1))))
 rcases hops with rfl|rfl|rfl|rfl|rfl|⟨hhi,h12⟩
 · -- a call
  have hopn:opdN (.mk 3 n b ks al)=ks.length:=rfl
  have hkl:=hsh.app.1
  rw[hopn]at hl
  match d,hd,hl with
  |[],_,hl=>simp at hl;omega
  |v0::ds,hd,hl=>
   obtain⟨c0,dcs,rfl,hv0,hds⟩:=hd.consE
   have hcm:callM [] { m with k:=k } v0 ds=.ok m':=by
    unfold kidM at hx0
    rw[if_neg hnl]at hx0
    exact hx0
   refine kid_app hΓ h0 hfc he hv0 hds hk (by simpa using hl) rfl (fun ou' h0'=>?_)
   have hno:(∀t e,v0≠.clo t e)->(∀fs,v0≠.res fs)->False:=fun h1 h2=>by
    cases v0 with
    |clo t e=>exact h1 _ _ rfl
    |res fs=>exact h2 _ rfl
    |cap n s=>exact absurd hgd.1.1.2 (by show ¬(n < 0);have:=hgd.1.1.1;omega)
    |_=>cases hcm
   cases v0 with
   |clo t' e'=>
    obtain⟨g1,g2,g3⟩:=hgd.1
    have F':FragL hi ⟨t'.op,t'.n,t'.binds,t'.kids.map Tr.op,t'.alts⟩:=Q0n g2
    have hsh':=g_sh (G1ok hi) g2
    rw[g1]at hsh'
    obtain⟨s,hs⟩:=Q01 (l:=t'.kids) (i:=0) (by have:=hsh'.lam.1;omega)
    cases hv0 with
    |clo _ _ c he'=>
     have hco:Q6t fu ⟨ac,kt⟩ [] ou' H nm m k (.clo t' e') (iB tClo [.box (cTr t'),c]) ds dcs Γ:=Qeq hΓ h0' hfc hk he' hds hs F'.bl
     have:=AFnP.okStep hco hcm
     rwa [hcm]at this
    |cloP _ _ c q hq he'=>
     have hco:Q6t fu ⟨ac,kt⟩ [] ou' H nm m k (.clo t' e') (.ifc tClo false [.ptr (.o q) 0]) ds dcs Γ:=Qbv hΓ h0' hfc hk hq he' hds hs F'.bl
     have:=AFnP.okStep hco hcm
     rwa [hcm]at this
   |res fs=>
    have hR:hi=true:=hgd.1.1
    match ds,hds,hcm with
    |[a],hds,hcm=>
     obtain⟨c,ds2,rfl,hva,hnil⟩:=hds.consE
     have hz:=hnil.nilE
     subst hz
     cases hcm
     exact hmore.res hR ou' H nm m k fs kc tc0 ec0 vc0 kt _ a c h0' hk hv0 hva hgd.1.2 (hnx hR)
    |[],_,hcm=>cases hcm
    |_::_::_,_,hcm=>cases hcm
   |_=>exact (hno (by simp) (by simp)).elim
 · -- a let
  obtain⟨v,rfl⟩:=list1 (l:=d) hl
  obtain⟨hk2,hb1,_⟩:=hsh.lett
  obtain⟨id,rfl⟩:=list1 hb1
  obtain⟨s0,s1,rfl⟩:=list2 hk2
  have:=AFnP.okStep (Qhs (fns:=[]) (t:=.mk 4 n [id] [s0,s1] al) (s:=s1) (id:=id) hΓ h0 hfc he hd hk (v:=v) rfl rfl rfl rfl) hx0
  rwa [hx0]at this
 · -- a constructor
  have hp:({ m with k:=k,c:=.rt (.obj n d) }:Ms)=m':=by
   unfold kidM at hx0
   rw[if_neg hnl]at hx0
   cases hx0;rfl
  subst hp
  exact Qbb hΓ h0 hfc he hd hk hl (by simp[Tr.op]) fun ou' h0'=>Qb4 hΓ h0' hd rfl
 · -- a choice
  obtain⟨v,rfl⟩:=list1 (l:=d) hl
  have hcm:Q1y { m with k:=k } (.mk 7 n b ks al) e v=.ok m':=by
   unfold kidM at hx0
   rw[if_neg hnl]at hx0
   exact hx0
  refine Qkg hΓ h0 hfc he hd hk rfl rfl (fun ou' h0'=>?_)
  have:=AFnP.okStep (Qbq (t:=.mk 7 n b ks al) hΓ h0' hfc he hd hk (v:=v) rfl hsh.case.1 F.al F.ab kc hk.ids) hcm
  rwa [hcm]at this
 · -- a primitive
  have hpn:=hsh.prim
  have hopn:opdN (.mk 8 n b ks al)=ks.length:=rfl
  rw[hopn]at hl
  have hpm:(Q0r fu { m with k:=k } (.mk 8 n b ks al) d).map (fun (m',v)=>{ m' with c:=.rt v })=.ok m':=by
   unfold kidM at hx0
   rw[if_neg hnl]at hx0
   exact hx0
  have hpm2:Q0r fu { m with k:=k } (.mk 8 n b ks al) d=primM fu { m with k:=k } n d:=rfl
  rw[hpm2]at hpm
  cases hpr:primM fu { m with k:=k } n d with
  |error c=>rw[hpr]at hpm;cases hpm
  |ok mv=>
   obtain⟨m1,v⟩:=mv
   rw[hpr]at hpm
   cases hpm
   have hpk:=(Q2o (fu:=fu) (m:={ m with k:=k }) (t:=.mk 8 n b ks al) (l:=d) (m':=m1) (v:=v) hpr).2.2
   have hfin:({ m1 with c:=.rt v }:Ms)={ m1 with c:=.rt v,k:=k }:=by cases m1;simp only at hpk;rw[hpk]
   show AFn Tryz.prog Γ 118 _ ou (StQ fu ⟨ac,kt⟩ H nm (.ok { m1 with c:=.rt v }))
   rw[hfin]
   refine Qbb hΓ h0 hfc he hd hk hl (by simp[Tr.op]) fun ou' h0'=>Qf7 hΓ hd rfl ?_
   rcases F.pr rfl with hn2|hn2|hn2|hn2|hn2|h7
   iterate 5
    ·have hn5:n=0∨n=1∨n=2∨n=5∨n=6:=by simp only at hn2;omega
     have hk2:ks.length=2:=by
      have:=hpn.2.2.1
      simp only at hn2
      subst hn2
      simp[Q2r]at this
      omega
     obtain⟨x0,y0,rfl⟩:=list2 (l:=d) (by omega)
     obtain⟨x,y,rfl,rfl⟩:=Qf6 hn5 hpr
     obtain⟨c0,d1,rfl,hv0,hd1⟩:=hd.consE
     obtain⟨c1,d2,rfl,hv1,hd2⟩:=hd1.consE
     have hz:=hd2.nilE
     subst hz
     have e0:=hv0.wordE
     have e1:=hv1.wordE
     subst e0;subst e1
     obtain⟨hm1,c,hvc,hpa⟩:=Qdx (Γ:=Γ) (H:=H) (nm:=nm) hΓ hn5 hgd.1 hgd.2.1 hpr ou'
     subst hm1
     refine AFn.mono hpa fun r ou2 hq=>?_
     obtain⟨rfl,rfl⟩:=hq
     exact⟨kt,H,nm,c,rfl,.refl _ _,hvc,⟨h0'.ids,h0'.m0,h0'.w⟩⟩
   ·simp only at h7
    subst h7
    have hk1:ks.length=1:=by have:=hpn.2.2.1;simp[Q2r]at this;omega
    obtain⟨x0,rfl⟩:=list1 (l:=d) (by omega)
    cases hx1:wordV x0 with
    |error c=>simp[primM,hx1,bind,Except.bind]at hpr
    |ok a=>
     have e0:=Qc7 hx1
     subst e0
     simp only[primM,wordV,List.getD_cons_zero,bind,Except.bind,pure,Except.pure,if_true,if_neg (show ¬(7:Int)=0 by decide),if_neg (show ¬(7:Int)=1 by decide),if_neg (show ¬(7:Int)=2 by decide),if_neg (show ¬(7:Int)=3 by decide),if_neg (show ¬(7:Int)=4 by decide),if_neg (show ¬(7:Int)=5 by decide),if_neg (show ¬(7:Int)=6 by decide)]at hpr
     split at hpr
     ·cases hpr
     rename_i hne
     cases hpr
     obtain⟨c0,d1,rfl,hv0,hd1⟩:=hd.consE
     have hz:=hd1.nilE
     subst hz
     have e0:=hv0.wordE
     subst e0
     refine AFn.mono (Q8q hΓ h0' hfc a hol hne) fun r ou2 hq=>?_
     obtain⟨kt2,H1,nm1,c,q1,q2,q3,q4⟩:=hq
     exact⟨kt2,H1,nm1,c,q1,q2,q3,⟨q4.ids,q4.m0,q4.w⟩⟩
 · -- an operation, a handler
  have hl1:d.length=1:=by rw[hl];exact if_pos (show o=4∨o=7∨o=13∨o=12 by omega)
  exact hmore.kid hhi ou H nm m m' _ e d k ec kc tc0 ec0 vc0 kc0 dc kt h0 he hd hk ht hgk (hkb hhi) hl1 h12 hx0
theorem startC(hΓ:∀g cs,(g,cs)∈Γ->idsL isO cs)(hac:ac.ids isO){hi:Bool}(hk:KidC fu ac (G1 hi) Γ):StartC fu ac (G1 hi) Γ:=by
 intro ou H nm m m' t e ec vc kc kt h0 he hkr ht hge hgk hkb hol hx hnx
 have F:FragL hi ⟨t.op,t.n,t.binds,t.kids.map Tr.op,t.alts⟩:=Q0n ht
 have hsh:=g_sh (G1ok hi) ht
 have hfc:(FcT.mk ac kt).ids isO:=hac
 have hx0:Q0d fu [] m t e=.ok m':=hx
 by_cases e0:t.op=0
 ·have:=Qav hΓ h0 hfc he hkr e0
  unfold Q0d at hx0;rw[if_pos e0]at hx0;cases hx0;exact this
 by_cases e1:t.op=1
 ·have:=Qay hΓ h0 hfc hkr e1
  unfold Q0d at hx0;rw[if_neg e0,if_pos e1]at hx0;cases hx0;exact this
 by_cases e2:t.op=2
 ·have:=Qax hΓ h0 hfc he hkr e2
  unfold Q0d at hx0;rw[if_neg e0,if_neg e1,if_pos e2]at hx0;cases hx0;exact this
 by_cases e17:t.op=17
 ·unfold Q0d at hx0;rw[if_neg e0,if_neg e1,if_neg e2,if_pos e17]at hx0;cases hx0
 by_cases e5:t.op=5
 ·rw[e5]at hsh
  have:=Qaw hΓ h0 hfc he hkr e5 hsh.recs.1 F.bl
  unfold Q0d at hx0;rw[if_neg e0,if_neg e1,if_neg e2,if_neg e17,if_pos e5]at hx0;cases hx0;exact this
 ·have hx1:kidM fu [] m (.mk t e []) m.k=.ok m':=by
   unfold Q0d at hx0;rw[if_neg e0,if_neg e1,if_neg e2,if_neg e17,if_neg e5]at hx0;exact hx0
  have hnl:nLf t.op:=fun h=>by rcases h with h|h|h|h|h <;> contradiction
  exact Qgi hΓ h0 he hkr hnl (hk ou H nm m m' t e [] m.k ec kc _ _ _ _ [] kt h0 he .nil hkr ht hge trivial (Nat.zero_le _) hnl hgk hkb hol hx1 hnx)
end
theorem Qib(a b c d:Value)(w:World):CallsD Tryz.prog 93 #[a,b,c,d] .returning w fun e u' w'=>(∃v,e=.returned v)/\u'=.returning/\w'=w:=by
 refine callsD_of_wpS Tryz.func93 rfl fun c₀ cs hu=>?_
 apply wpS_seq
 apply wpS_region
 simp[wpOpsS,go_sem,recoverD,hu,Tryz.ntmps93,Exit.thenS]
 apply wpS_seq
 apply wpS_region
 simp[wpOpsS,go_sem,recoverD,hu,Exit.thenS]
 refine wpS_cond (t:=false) (by simp[Act.eval,Array.replicate]) ?_
 simp only[Bool.false_eq_true,if_false]
 refine wpS_of_wp (wp_skip ?_)
 cases c₀
 simp_all[bodyPostS,results,Tryz.results93]
section
variable {fu:Int}{ac:AC}{G:GP}
theorem Qj9(hΓ:∀g cs,(g,cs)∈Γ->idsL isO cs){ou:Outer}{mf:Ms}{vf:Vl}{kt0:Nat}
  (hrun:AFn Tryz.prog Γ 94 [.one (.ptr (.o 0) 0)] ou (fun r ou'=>r=.one (.lit (.bool true))/\mf.c=.rt vf/\mf.k=[]/\∃H' nm',MR fu ⟨ac,kt0⟩ ou' H' nm' mf)):
  AFn Tryz.prog Γ 63 [.one (.ptr (.o 0) 0)] ou (fun r ou'=>r=.tup [.agg [.sl 1 (mf.out.map cI),int 0,int (lastV vf)],.one (int mf.steps),.one (int 0)]):=by
 refine AFn.ofDefer (gd:=93) (d5:=5) (first:=[]) (caps:=[.ptr (.l 0) 0,.ptr (.l 1) 0,.ptr (.l 2) 0,.ptr (.l 3) 0]) (fr1:=[(4,.one (.ptr (.l 3) 0)),(3,.one (.ptr (.l 2) 0)),(2,.one (.ptr (.l 1) 0)),(1,.one (.ptr (.l 0) 0)),(0,.one (.ptr (.o 0) 0))])
  (σ1 := ⟨4, [(3, .cells [int 0]), (2, .cells [int 0]), (1, .cells [.lit (.slice none 0 0), int 0, int 0]), (0, .cells [.ptr (.o 0) 0])], ou⟩)
  tabOk Tryz.func63 rfl (by kernel_rfl) (by decide) ?_ rfl rfl (by decide) (AStep.ofOp tabOk rfl) rfl rfl rfl ?_ ?_
 ·intro hou
  refine zA ?_
  exact⟨rfl,rfl,rfl⟩
 ·intro us w
  refine⟨?_,fun hs=>?_⟩
  ·simp[callFunc,Tryz.func93,Tryz.f93]
  ·obtain⟨l⟩:=us
   match l,hs with
   |[a,b,c,d],_=>exact Qib a b c d w
 ·intro hou ds
  refine zA ?_
  refine AOps.call1 hΓ rfl rfl rfl rfl rfl rfl rfl ⟨trivial,trivial⟩ hou hrun fun r ou' hq _ how=>?_
  obtain⟨rfl,hc,hk,H',nm',hM⟩:=hq
  obtain⟨kt,tc,ec,vc,kc,hCR,hKR,h0⟩:=hM.ex
  rw[hc]at hCR
  cases hCR with
  |rt _ ec vc hv=>
   have hvi:=hv.ids
   have hoX:=h0.ouX
   rw[hoX]at how ⊢
   refine zA ?_
   refine ACode.drawSt tabOk 15 14 [(8,.one (int (lastV vf)))] _ follows (by kernel_rfl) rfl rfl (by kernel_rfl) rfl ?_ rfl rfl rfl rfl ?_ ?_ (AStep.ofStore tabOk rfl) ?_
   ·rfl
   ·exact⟨⟨_,rfl,AStep.callPure hΓ rfl rfl rfl ⟨hvi,trivial⟩ how (Qa2 hv)⟩,trivial⟩
   ·exact⟨⟨_,rfl,AStep.callPure hΓ rfl rfl rfl ⟨hvi,trivial⟩ how (Qa2 hv)⟩,trivial⟩
   refine zA ?_
   exact AFn.fin' rfl (WkF.tup (.cons (.agg (.cons (.gsE rfl) (.cons (.refl _) (.cons (.refl _) .nil)))) (.cons (.refl _) (.cons (.refl _) .nil)))) (by simp) how rfl
end
abbrev nilS:AC:=.lit (.slice none 0 0)
structure RunsTo (hi:Bool)(fu:Int)(e:List Ex)(mf:Ms)(vf:Vl):Prop where
 chk:check e=0
 frag:allT (FragL hi) (grow e)
 fu0:1<=fu/\fu<=1000000
 go:∃g,goX fu [] g ⟨.ev (grow e) .nil,[],[],0,[]⟩=some (.done mf vf)/\(hi=true->bndX fu [] g ⟨.ev (grow e) .nil,[],[],0,[]⟩=true)
 out:mf.out.length<=1000
 st:mf.steps<=fu
theorem MR_init(t:Tr)(fu:Int):MR fu ⟨nilS,1⟩ (ouOf [.cells (mC (.box (cTr t)) nilPE (.lit .nilIface) nilPE [] 0 fu ⟨nilS,1⟩),.tok 3 1 0]) (fun _=>none) [] ⟨.ev t .nil,[],[],0,[]⟩:=by
 refine⟨⟨1,_,_,_,_,.ev t .nil nilPE (.lit .nilIface) .nil,.nil,⟨⟨by simp,trivial,trivial,trivial⟩,rfl,⟨fun k cs hk=>(by cases hk),fun k o hk=>?_,rfl,fun a k n h=>(by simp at h),fun a k n h=>rfl,fun a b k n n' h=>(by simp at h),⟨rfl,fun a k n h=>(by simp at h)⟩,fun cs hc es i hi=>?_,fun k o hk=>?_⟩⟩⟩⟩
 ·match k,hk with
  |0,hk=>cases hk;exact⟨by simp,trivial,trivial,trivial,⟨trivial,trivial⟩,trivial,trivial,trivial,trivial⟩
  |1,hk=>cases hk;trivial
  |k+2,hk=>simp[ouOf]at hk
 ·cases hc
  cases hi
  exact⟨1,rfl,Nat.le_refl _,rfl,rfl,fun a k n h=>by simp at h⟩
 ·match k,hk with
  |0,hk=>cases hk;trivial
  |1,hk=>cases hk;trivial
  |k+2,hk=>simp[ouOf]at hk
theorem Run_ok{hi:Bool}{fu:Int}{e:List Ex}{mf:Ms}{vf:Vl}(hm:MoreC hi fu nilS Γc)(he:okB e)(h:RunsTo hi fu e mf vf):
  APure Tryz.prog Γc 34 [.one (.sl 5 (e.map cEx)),.one (int fu)] (.tup [.agg [.sl 1 (mf.out.map cI),int 0,int (lastV vf)],.one (int mf.steps),.one (int 0)]):=by
 have t1:=Q42 h.chk
 have c1:=Q5u e he
 rw[h.chk]at c1
 obtain⟨g,hg,hgb⟩:=h.go
 have hM0:=MR_init (grow e) fu
 have hkc:=kidC hΓc (fu:=fu) (ac:=nilS) trivial hm
 have hsc:=startC hΓc (fu:=fu) (ac:=nilS) trivial hkc
 have hgm:gM (G1 hi) ⟨.ev (grow e) .nil,[],[],0,[]⟩:=⟨⟨h.frag,trivial⟩,trivial,fun r hr=>by cases hr⟩
 have hrun:=run_ok hΓc (ac:=nilS) trivial (G1ok hi) (fun t ht=>G1opn ht) hkc hsc hM0 hgm hg hgb h.out ⟨by have:=h.fu0;omega,h.fu0.2⟩ (by simp) h.st
 have hwh0:=Qj9 (ac:=nilS) (kt0:=1) hΓc hrun
 have hwh:AFn Tryz.prog Γc 63 [.one (.ptr (.o 0) 0)] (ouOf [.cells (mC (.box (cTr (grow e))) nilPE (.lit .nilIface) nilPE [] 0 fu ⟨nilS,1⟩),.tok 3 1 0]) (fun r ou'=>r=.tup [.agg [.sl 1 (mf.out.map cI),int 0,int (lastV vf)],.one (int mf.steps),.one (int 0)]/\ou'=ouOf [.dead,.dead]):=by
  refine AFn.forgetD (AFn.mono hwh0 fun r ou' hq=>⟨ouOf [.dead,.dead],fun m o hmo=>?_,hq,rfl⟩)
  match m,hmo with
  |0,hmo=>cases hmo;exact .inr ⟨rfl,_,rfl⟩
  |1,hmo=>cases hmo;exact .inr ⟨rfl,_,rfl⟩
  |m+2,hmo=>simp[ouOf]at hmo
 intro ou
 refine AFn.walk 30 tabOk Tryz.func34 rfl (by kernel_rfl) rfl rfl fun hou=>?_
 refine zA ?_
 refine zca hΓc c1 hou ?_
 refine zA ?_
 have hf1:decide (fu < 1)=false:=by have:=h.fu0;simp;omega
 have hf2:decide (fu > 1000000)=false:=by have:=h.fu0;simp;omega
 refine AOps.wk 16 rfl (y:=.one (.lit (.bool false))) (.ofEq (by show FV.one (.lit (.bool (decide (fu < 1))))=_;rw[hf1])) ?_
 refine zM ?_
 refine ACode.cond rfl (fun hb=>absurd (show 1000000 < fu by simpa using hb) (by have:=h.fu0;omega)) (fun _=>?_)
 refine zM ?_
 refine zca hΓc (Qda hΓc e he.eo t1.k t1.ne) hou ?_
 repeat ((fail_if_success ((with_reducible refine oj ?_);refine AOps.atDst 26 rfl ?_));first|refine zO ?_)
 refine AOps.growO 1 4 3 1 rfl rfl ?_
 refine AOps.callR [.l 1,.l 2] [.one (.ptr (.o 0) 0)] [.cells (mC (.box (cTr (grow e))) nilPE (.lit .nilIface) nilPE [] 0 fu ⟨nilS,1⟩),.tok 3 1 0] hΓcF rfl rfl rfl rfl rfl rfl ?_ ?_ ?_ ?_ ?_ hwh ?_
 ·rfl
 ·simp[inO]
 ·simp
 ·refine⟨?_,rfl,trivial⟩
  simp only[AObj.sub,mC,subL,AC.sub,nameOf,List.map_nil,subS]
  rw[Q1z _ _ (by simp)]
  rfl
 ·simp[inO,mC]
 intro r ou' hq
 obtain⟨rfl,rfl⟩:=hq
 refine⟨[.dead,.dead],rfl,rfl,by simp,by simp,?_⟩
 rw[show FV.sub (nameOf [.l 1,.l 2]) (.tup [.agg [.sl 1 (mf.out.map cI),int 0,int (lastV vf)],.one (int mf.steps),.one (int 0)])=.tup [.agg [.sl 1 (mf.out.map cI),int 0,int (lastV vf)],.one (int mf.steps),.one (int 0)]from FV.sub_pure _ _ (by simp)]
 refine zA ?_
 exact APure.fin rfl (WkF.ofEq rfl) (by simp) hou rfl
section
variable {fu:Int}{fc:FcT}{fns:List Fun}{ou:Outer}{H:Hm}{nm:Nm2}{m:Ms}{tc0 ec0 vc0 kc0:AC}{t:Tr}{e:En}{d:List Vl}{k:List Fm}{ec:AC}{dc:List (List AC)}{kc:AC}
theorem Qfk(hΓ:∀g cs,(g,cs)∈Γ->idsL isO cs)(h0:M0 fu fc ou H nm m tc0 ec0 vc0 kc0)(hfc:fc.ids isO)(he:ER H nm e ec)(hd:VsR H nm d dc)(hk:KR H nm k kc){v:Vl}(hdv:d=[v]){s:Tr}{id:Int}{al0:Alt}(h4:t.op=13)(hs:t.kids[1]?=some s)(hal:t.alts[0]?=some al0)(hbn:al0.binds=[id]):
  AFnP Tryz.prog Γ 118 [.one (.ptr (.o 0) 0),.one (.box [.box (cTr t),ec,.sl 1 dc,kc])] ou (StQ fu fc H nm (kidM fu fns m (.mk t e d) k)) (StP m (kidM fu fns m (.mk t e d) k)):=by
 have hoX:=h0.ouX
 have hei:=he.ids
 have hdi:=hd.ids
 have hki:=hk.ids
 have hdl:=hd.len
 have hop:opdN t=1:=by unfold opdN;rw[if_pos (.inr (.inr (.inl h4)))]
 subst hdv
 obtain⟨y,hy,hvy⟩:=hd.get (i:=0) rfl
 rw[hoX]
 have hw:=h0.w
 rw[hoX]at hw
 generalize hmc:ou=ou0 at hw
 clear hoX
 refine AFnP.walk 262 tabOk hΓ Tryz.func118 rfl (by kernel_rfl) rfl rfl fun hou=>?_
 refine zA ?_
 refine ACode.drawX tabOk 10 [(9,.one (int (opdN t)))] follows (by kernel_rfl) rfl rfl rfl rfl ?_ ?_
 ·exact⟨⟨_,rfl,AStep.callPure hΓ rfl rfl rfl (by simp[idsF]) hou (Q2d t)⟩,trivial⟩
 refine zA ?_
 refine ACode.cond rfl (fun hb=>absurd hb (by simp[hdl,hop])) (fun hb=>?_)
 refine zA ?_
 refine ACode.stEq (σ':=⟨0,[],ouX (mC tc0 ec0 vc0 kc m.out m.steps fu fc) m.out.length ou0⟩) (setX _ _ _ _) ?_
 have hw1:WR (ouX (mC tc0 ec0 vc0 kc m.out m.steps fu fc) m.out.length ou0) H nm m.heap:=hw.put (by simp[mC,h0.ids.1,h0.ids.2.1,h0.ids.2.2.1,hki,hfc]) rfl rfl (fun _=>rfl)
 have hyi:=hvy.ids
 have hsc:(Q1f t.kids)[1]?=some [.box (cTr s)]:=Q1h hs
 have hac:(t.alts.map cAlt)[0]?=some (cAlt al0):=by rw[List.getElem?_map,hal];rfl
 have hbc:(al0.binds.map cI)[0]?=some [int id]:=by rw[hbn];rfl
 have d4:¬t.op=4:=by omega
 have d7:¬t.op=7:=by omega
 have d3:¬t.op=3:=by omega
 refine ACode.cond rfl (fun hb=>absurd hb (by simp[d4])) (fun _=>?_)
 refine zA ?_
 refine ACode.cond rfl (fun hb=>absurd hb (by simp[d7])) (fun _=>?_)
 refine zA ?_
 refine ACode.cond rfl (fun hb=>absurd hb (by simp[d3])) (fun _=>?_)
 refine zA ?_
 refine ACode.cond rfl (fun _=>?_) (fun hb=>absurd hb (by simp[h4]))
 refine ACode.drawCS tabOk 37 33 34 35 36 (.one (.ptr (.o 0) 0)) (.one (.ptr (.o 0) 0)) [(9,.one (.box [.box (cTr s)])),(22,.one (.box (cAlt al0))),(25,.one (.box [int id])),(31,.one (.box [y]))]
  (GrP (mC tc0 ec0 vc0 kc m.out m.steps fu fc) m.out.length ou0 H (mC tc0 ec0 vc0 kc m.out m.steps fu fc) fun v H1=>∃q,v=.one (.ptr (.o q) 0)/\H1 q=some [int id,y,ec])
  (GrP (mC tc0 ec0 vc0 kc m.out m.steps fu fc) m.out.length ou0 H (mC (.box (cTr s)) ec0 vc0 kc m.out m.steps fu fc) fun v H1=>∃q,v=.one (.ptr (.o q) 0)/\H1 q=some [int id,y,ec])
  follows (by kernel_rfl) rfl rfl (by decide) (by kernel_rfl) (by kernel_rfl) rfl rfl rfl rfl rfl rfl rfl ?_ ?_ ?_ ?_ ?_ ?_ ?_ ?_ ?_ ?_
 ·rintro v σ ⟨ou1,H1,rfl,_,_⟩;rfl
 ·rintro v σ ⟨ou1,H1,rfl,_,_⟩;rfl
 ·exact⟨⟨_,rfl,zIA rfl rfl rfl (by decide) hsc⟩,⟨_,rfl,zIA rfl rfl rfl (by decide) hac⟩,⟨_,rfl,zIA rfl rfl rfl (by decide) hbc⟩,⟨_,rfl,zIA rfl rfl rfl (by decide) hy⟩,trivial⟩
 ·rintro v σ ⟨ou1,H1,rfl,_,_⟩
  exact⟨⟨_,rfl,zIA rfl rfl rfl (by decide) hsc⟩,⟨_,rfl,zIA rfl rfl rfl (by decide) hac⟩,⟨_,rfl,zIA rfl rfl rfl (by decide) hbc⟩,⟨_,rfl,zIA rfl rfl rfl (by decide) hy⟩,trivial⟩
 ·rintro v σ ⟨ou1,H1,rfl,_,_⟩
  exact⟨⟨_,rfl,zIA rfl rfl rfl (by decide) hsc⟩,⟨_,rfl,zIA rfl rfl rfl (by decide) hac⟩,⟨_,rfl,zIA rfl rfl rfl (by decide) hbc⟩,⟨_,rfl,zIA rfl rfl rfl (by decide) hy⟩,trivial⟩
 ·refine Q0x.ofR (Q0y.call hΓ rfl rfl rfl rfl ⟨hei,trivial,hyi,trivial⟩ hw1.ok (Q5w id y ec hyi hei _) fun r ou' hq hr ho=>?_)
  obtain⟨q,rfl,hN⟩:=hq
  exact GrP.of (Gro.add hw1.inO hN) ⟨q,rfl,by simp[addH]⟩
 ·rintro v σ ⟨ou1,H1,rfl,_,q,rfl,_⟩;exact AStep.ofOp tabOk rfl
 ·rintro v σ ⟨ou1,H1,rfl,_,q,rfl,_⟩;exact AStep.ofOp tabOk rfl
 ·rintro v σ ⟨ou1,H1,rfl,h1,h2⟩;exact⟨_,⟨ou1,H1,setX _ _ _ _,h1,h2⟩,AStep.ofStore tabOk rfl⟩
 ·rintro v' σ ⟨ou1,H1,rfl,h1,q,rfl,h3⟩
  refine zA ?_
  have hw2:=hw1.gro h1 (by simp[ouX]) (by simp[ouX])
  have hM:MR fu fc _ H1 nm { m with c:=.ev s (.bind id v e),k:=k }:=MR.ofEv (ou':=(St.set ⟨0,[],ouX (mC (.box (cTr s)) ec0 vc0 kc m.out m.steps fu fc) m.out.length ou1⟩ (.o 0) (.cells (mC (.box (cTr s)) (.ptr (.o q) 0) vc0 kc m.out m.steps fu fc))).ou) hw2 (.bind id v e q y ec h3 (hvy.mo (h1.mo nm)) (he.mo (h1.mo nm))) (hk.mo (h1.mo nm)) h0.ids.2.2.1 hfc rfl rfl (fun _=>rfl)
  refine AFn.fin' rfl (WkF.refl _) (by simp) hM.ok ⟨rfl,H1,nm,_,?_,h1.mo nm,hM⟩
  unfold kidM
  rw[if_neg (show ¬(Fm.mk t e [v]).done.length < opdN (Fm.mk t e [v]).t by simp[hop]),if_neg (show ¬(Fm.mk t e [v]).t.op=4 from d4),if_neg (show ¬(Fm.mk t e [v]).t.op=7 from d7),if_neg (show ¬(Fm.mk t e [v]).t.op=3 from d3),if_pos (show (Fm.mk t e [v]).t.op=13 from h4)]
  simp only[Fm.done_mk,Fm.t_mk,Fm.e_mk]
  rw[List.getD_eq_getElem?_getD,hs,List.getD_eq_getElem?_getD (l:=t.alts),hal]
  simp only[Option.getD_some,hbn]
  rfl
end
def PfB (mc mc':List AC)(n:Nat)(ou0:Outer)(H:Hm)(b0 b1:Int)(vc ec rc:AC)(y:FV)(σ:St):Prop:=∃q q2 ou1 H1,y=.one (.ptr (.o q2) 0)/\σ=⟨0,[],ouX mc' n ou1⟩/\Gro (ouX mc n ou0) H (ouX mc n ou1) H1/\H1 q=some [int b0,vc,ec]/\H1 q2=some [int b1,rc,.ptr (.o q) 0]
structure HdL (l:Lab):Prop where
 sh:shpQ l
 al:l.alts.length<=1048576
section
variable {fu:Int}{fc:FcT}{ou:Outer}{H:Hm}{nm:Nm2}{m m':Ms}{tc0 ec0 vc0 kc:AC}{k:List Fm}{op:Int}{v:Vl}{vc:AC}
theorem Qfc(hΓ:∀g cs,(g,cs)∈Γ->idsL isO cs)(h0:M0 fu fc ou H nm m tc0 ec0 vc0 kc)(hfc:fc.ids isO)(hk:KR H nm k kc)(hv:VR H nm v vc)(hkl:k.length<=1048576){G:GP}(hGp:∀l,G.p l->HdL l)(hg:gFs G k)(hx:Q0m m op v [] k=.ok m'):
  AFn Tryz.prog Γ 157 [.one (.ptr (.o 0) 0),.one (int op),.one vc] ou (StQ fu fc H nm (.ok m')):=by
 have hvi:=hv.ids
 have hki:=hk.ids
 have hoX:=h0.ouX
 have hw:=h0.w
 rw[hoX]
 rw[hoX]at hw
 generalize hmc:ou=ou0 at hw
 clear hoX
 refine AFn.walk 99 tabOk Tryz.func157 rfl (by kernel_rfl) rfl rfl fun hou=>?_
 refine zA ?_
 refine ACode.growS 6 100 1 rfl ?_
 refine ACode.loopR hΓ (α:=List Fm×AC×List Fm×List (List AC)) (fun c=>[(7,.one c.2.1),(6,.one (.gs 1 c.2.2.2 (.l 0))),(0,.one (.ptr (.o 0) 0)),(1,.one (int op)),(2,.one vc)])
  (fun c=>⟨1,[(0,.tok 100 1 c.2.2.2.length)],ouX (mC tc0 ec0 vc0 kc m.out m.steps fu fc) m.out.length ou0⟩) (fun n c=>(KR H nm c.1 c.2.1/\FsR H nm c.2.2.1 c.2.2.2/\Q0m m op v c.2.2.1 c.1=.ok m'/\gFs G c.1/\c.2.2.2.length+c.1.length<=1048576)/\n=c.1.length) (a0:=(k,kc,[],[])) (ρ:=_root_.id) ⟨⟨hk,.nil,hx,hg,by simpa using hkl⟩,rfl⟩
  (LessR.of rfl (FrSub.consP rfl (.ofEq rfl) hki (FrSub.consGs rfl rfl (by simp) (FrSub.cons rfl (.ofEq rfl) (FrSub.cons rfl (.ofEq rfl) (FrSub.consP rfl (.ofEq rfl) hvi .nil))))) ⟨Q0s hki 1,⟨by simp,trivial⟩,trivial,trivial,Q0s hvi 1,trivial⟩ zLO rfl rfl hou) fun n c hc=>?_
 obtain⟨kk,kcc,L,lc⟩:=c
 obtain⟨⟨hkk,hL,hpm,hgk,hlen⟩,rfl⟩:=hc
 dsimp only at hkk hL hpm hgk hlen
 clear hx hg hkl hk hki
 cases hkk with
 |nil=>cases hpm
 |cons t e d k' ec dc kc' he hd hk'=>
  have hei:=he.ids
  have hdi:=hd.ids
  have hki:=hk'.ids
  have hLi:=hL.ids
  have hfi:=(KR.cons t e d k' ec dc kc' he hd hk').ids
  refine zA ?_
  refine zS (AStep.neNilBox Tryz.underlying100 rfl rfl rfl) ?_
  refine zM ?_
  have hlen':lc.length+1<=1048576:=by simp only[List.length_cons]at hlen;omega
  refine AOps.app tabOk rfl rfl rfl rfl rfl rfl rfl rfl rfl (Base.gs' _ 100 1 _ _ rfl rfl) (.sl _ _) rfl ?_ ?_ ?_
  ·show (lc.length+1) * 8<=_;omega
  ·show lc.length+1<=_;omega
  have hL2:FsR H nm (L++[.mk t e d]) (lc++[[.box [.box (cTr t),ec,.sl 1 dc,kc']]]):=hL.snoc (.mk t e d ec dc kc' hki he hd)
  have hL2i:=hL2.ids
  generalize hlc:lc++[[AC.box [.box (cTr t),ec,.sl 1 dc,kc']]]=lc2 at hL2 hL2i
  have hl2:lc2.length=lc.length+1:=by rw[←hlc];simp
  refine zA ?_
  refine ACode.cond rfl (fun hb=>?_) (fun hb=>?_)
  ·have h13:¬t.op=13:=by simpa using hb
   have hpn:Q0m m op v (L++[.mk t e d]) k'=.ok m':=by
    unfold Q0m at hpm
    rw[Fm.t_mk,if_neg h13]at hpm
    exact hpm
   refine zM ?_
   exact cInv ⟨k'.length,(k',kc',L++[.mk t e d],lc2),(fun q=>if q=0 then 1 else q),by simp,⟨⟨hk',hL2,hpn,hgk.2,by simp only[List.length_cons]at hlen;dsimp only;omega⟩,rfl⟩,
    LessR.of rfl (FrSub.consP rfl (.ofEq rfl) hki (FrSub.consGs rfl rfl hL2i (FrSub.cons rfl (.ofEq rfl) (FrSub.cons rfl (.ofEq rfl) (FrSub.consP rfl (.ofEq rfl) hvi .nil))))) ⟨Q0s hki 1,⟨by simp,Q1v hL2i 1⟩,trivial,trivial,Q0s hvi 1,trivial⟩ zLO rfl rfl hou⟩
  ·have h13:t.op=13:=by simpa using hb
   have g1:allT HdL t:=Q44 hGp t hgk.1.1
   have F:HdL ⟨t.op,t.n,t.binds,t.kids.map Tr.op,t.alts⟩:=Q0n g1
   have hal:t.alts.length<=1048576:=F.al
   have hsh:=Q7c (Q44 (fun l h=>HdL.sh h) t g1)
   rw[h13]at hsh
   refine zA ?_
   refine ACode.loopR hΓ (α:=Nat) (fun i=>[(40,.one (int i)),(39,.one (int (t.alts.map cAlt).length)),(38,.one (.sl 2 (t.alts.map cAlt))),(7,.one (.box [.box (cTr t),ec,.sl 1 dc,kc'])),(6,.one (.gs 1 lc2 (.l 0))),(0,.one (.ptr (.o 0) 0)),(1,.one (int op)),(2,.one vc)])
    (fun i => ⟨1, [(0, .tok 100 1 lc2.length)], ouX (mC tc0 ec0 vc0 kc m.out m.steps fu fc) m.out.length ou0⟩) (fun n i => (i <= t.alts.length /\ Q0k op 0 t.alts = Q0k op i (t.alts.drop i)) /\ n = t.alts.length - i) (a0 := 0) (ρ := fun q => if q = 0 then 1 else q) ⟨⟨by omega, rfl⟩, rfl⟩
    (LessR.of rfl (FrSub.cons rfl (.ofEq rfl) (FrSub.cons rfl (.ofEq rfl) (FrSub.consP rfl (.ofEq rfl) (by simp) (FrSub.consP rfl (.ofEq rfl) hfi (FrSub.consGs rfl rfl hL2i (FrSub.cons rfl (.ofEq rfl) (FrSub.cons rfl (.ofEq rfl) (FrSub.consP rfl (.ofEq rfl) hvi .nil)))))))) ⟨trivial, trivial, by simp, Q0s hfi 1, ⟨by simp, Q1v hL2i 1⟩, trivial, trivial, Q0s hvi 1, trivial⟩ zLO rfl rfl hou) fun n i hi => ?_
   obtain⟨⟨hil,hcl⟩,rfl⟩:=hi
   refine zA ?_
   refine ACode.cond rfl (fun hb1=>?_) (fun hb1=>?_)
   ·have hlt:i < t.alts.length:=by simpa using hb1
    clear hb1
    obtain⟨a,ha⟩:=Q01 hlt
    have hda:t.alts.drop i=a::t.alts.drop (i+1):=by
     rw[←List.getElem_cons_drop hlt]
     congr 1
     exact (List.getElem?_eq_some_iff.1 ha).2
    have hac:(t.alts.map cAlt)[i]?=some (cAlt a):=by rw[List.getElem?_map,ha];rfl
    refine zA ?_
    refine zS (zIA rfl rfl rfl (by omega) hac) ?_
    refine zM ?_
    refine AOps.splitS rfl rfl rfl rfl (fun hb2=>?_) (fun hb2=>?_)
    ·have htag:a.tag=op:=by simpa using hb2
     refine zM ?_
     refine ACode.cond rfl (fun hb3=>?_) (fun hb3=>?_)
     ·have hi0:0 < i:=by simpa using hb3
      have hcs:Q0k op 0 t.alts=some i:=by rw[hcl,hda,Q0k,if_pos ⟨htag,hi0⟩]
      have hb2:=(hsh.handle.2.2.2 i a ha).2
      rw[if_neg (by omega)]at hb2
      obtain⟨b0,b1,hab⟩:=list2 hb2
      obtain⟨s,hs⟩:=Q01 (l:=t.kids) (i:=1+i) (by rw[hsh.handle.1];omega)
      have hm':m'={ m with c:=.ev s (.bind b1 (.res (L++[.mk t e d])) (.bind b0 v e)),k:=k' }:=by
       unfold Q0m at hpm
       rw[Fm.t_mk,if_pos h13,hcs]at hpm
       simp only[Fm.e_mk,Except.ok.injEq]at hpm
       rw[←hpm,List.getD_eq_getElem?_getD,hs,List.getD_eq_getElem?_getD (l:=t.alts),ha]
       simp[hab]
      have hRv:VR H nm (.res (L++[.mk t e d])) (iB tRes [.sl 1 lc2]):=.res _ _ hL2
      clear hb3 hcl hda hb hil hpm
      refine ACode.wk 6 (y:=.one (.sl 1 lc2)) rfl (.one (.gsE rfl)) ?_
      refine ACode.freeze1 (.l 1) 9 rfl rfl ?_
      refine ACode.lessR hΓ (fr':=[(0,.one (.ptr (.o 0) 0)),(2,.one vc),(6,.one (.sl 1 lc2)),(7,.one (.box [.box (cTr t),ec,.sl 1 dc,kc'])),(8,.one (int i)),(9,.one (.box (cAlt a)))]) (σ':=⟨0,[],ouX (mC tc0 ec0 vc0 kc m.out m.steps fu fc) m.out.length ou0⟩) (ρ:=_root_.id)
       (LessR.of rfl (FrSub.cons rfl (.ofEq rfl) (FrSub.consP rfl (.ofEq rfl) hvi (FrSub.consP rfl (.ofEq rfl) hL2i (FrSub.consP rfl (.ofEq rfl) hfi (FrSub.cons rfl (.ofEq rfl) (FrSub.consP rfl (.ofEq rfl) (by simp [cAlt]) .nil)))))) ⟨trivial, Q0s hvi 0, Q1v hL2i 0, Q0s hfi 0, trivial, by simp [cAlt], trivial⟩ zLO rfl rfl hou) ?_
      have hsc:(Q1f t.kids)[1+i]?=some [.box (cTr s)]:=Q1h hs
      have hb0:(a.binds.map cI)[0]?=some [int b0]:=by rw[hab];rfl
      have hb1:(a.binds.map cI)[1]?=some [int b1]:=by rw[hab];rfl
      have hRi:=hRv.ids
      have hcon:Tryz.prog.concrete tRes=true:=by kernel_rfl
      refine zA ?_
      refine ACode.drawC2 tabOk 43 [23,32,37,38,39,40,41,42] [(11,.one (int (1+(i:Int)))),(12,.one (.box [.box (cTr s)])),(20,.one (.box [int b0])),(26,.one (.box [int b1])),(30,.one (.box [.sl 1 lc2])),(31,.one (iB tRes [.sl 1 lc2]))] (fun vs σ=>match vs with
        |[]=>σ=⟨0,[],ouX (mC tc0 ec0 vc0 kc m.out m.steps fu fc) m.out.length ou0⟩
        |[x]=>∃q ou1 H1,x=.one (.ptr (.o q) 0)/\σ=⟨0,[],ouX (mC tc0 ec0 vc0 kc m.out m.steps fu fc) m.out.length ou1⟩/\Gro (ouX (mC tc0 ec0 vc0 kc m.out m.steps fu fc) m.out.length ou0) H (ouX (mC tc0 ec0 vc0 kc m.out m.steps fu fc) m.out.length ou1) H1/\H1 q=some [int b0,vc,ec]
        |[_,y]=>PfB (mC tc0 ec0 vc0 kc m.out m.steps fu fc) (mC tc0 ec0 vc0 kc m.out m.steps fu fc) m.out.length ou0 H b0 b1 vc ec (iB tRes [.sl 1 lc2]) y σ
        |[_,y,x]=>x=.one (.ptr (.o 0) 0)/\PfB (mC tc0 ec0 vc0 kc m.out m.steps fu fc) (mC tc0 ec0 vc0 kc m.out m.steps fu fc) m.out.length ou0 H b0 b1 vc ec (iB tRes [.sl 1 lc2]) y σ
        |[_,y,x,z]=>x=.one (.ptr (.o 0) 0)/\z=.one (.ptr (.o 0) 0)/\PfB (mC tc0 ec0 vc0 kc m.out m.steps fu fc) (mC tc0 ec0 vc0 kc m.out m.steps fu fc) m.out.length ou0 H b0 b1 vc ec (iB tRes [.sl 1 lc2]) y σ
        |[_,y,x,z,_]=>x=.one (.ptr (.o 0) 0)/\z=.one (.ptr (.o 0) 0)/\PfB (mC tc0 ec0 vc0 kc m.out m.steps fu fc) (mC (.box (cTr s)) ec0 vc0 kc m.out m.steps fu fc) m.out.length ou0 H b0 b1 vc ec (iB tRes [.sl 1 lc2]) y σ
        |[_,y,x,z,_,x1]=>x=.one (.ptr (.o 0) 0)/\z=.one (.ptr (.o 0) 0)/\x1=.one (.ptr (.o 0) 0)/\PfB (mC tc0 ec0 vc0 kc m.out m.steps fu fc) (mC (.box (cTr s)) ec0 vc0 kc m.out m.steps fu fc) m.out.length ou0 H b0 b1 vc ec (iB tRes [.sl 1 lc2]) y σ
        |[_,y,x,z,_,x1,z1]=>x=.one (.ptr (.o 0) 0)/\z=.one (.ptr (.o 0) 0)/\x1=.one (.ptr (.o 0) 0)/\z1=.one (.ptr (.o 0) 1)/\PfB (mC tc0 ec0 vc0 kc m.out m.steps fu fc) (mC (.box (cTr s)) ec0 vc0 kc m.out m.steps fu fc) m.out.length ou0 H b0 b1 vc ec (iB tRes [.sl 1 lc2]) y σ
        |[_,y,x,z,_,x1,z1,_]=>x=.one (.ptr (.o 0) 0)/\z=.one (.ptr (.o 0) 0)/\x1=.one (.ptr (.o 0) 0)/\z1=.one (.ptr (.o 0) 1)/\∃c1,y=.one c1/\PfB (mC tc0 ec0 vc0 kc m.out m.steps fu fc) (mC (.box (cTr s)) c1 vc0 kc m.out m.steps fu fc) m.out.length ou0 H b0 b1 vc ec (iB tRes [.sl 1 lc2]) y σ
        |_=>False) follows (by kernel_rfl) rfl rfl (by decide) (by kernel_rfl) (by kernel_rfl) rfl rfl ?_ ?_ (by decide) ?_ ?_
      ·intro vs σ h
       match vs with
       |[]=>subst h;rfl
       |[_]=>obtain⟨_,_,_,_,rfl,_⟩:=h;rfl
       |[_,_]=>obtain⟨_,_,_,_,_,rfl,_⟩:=h;rfl
       |[_,_,_]=>obtain⟨_,_,_,_,_,_,rfl,_⟩:=h;rfl
       |[_,_,_,_]=>obtain⟨_,_,_,_,_,_,_,rfl,_⟩:=h;rfl
       |[_,_,_,_,_]=>obtain⟨_,_,_,_,_,_,_,rfl,_⟩:=h;rfl
       |[_,_,_,_,_,_]=>obtain⟨_,_,_,_,_,_,_,_,rfl,_⟩:=h;rfl
       |[_,_,_,_,_,_,_]=>obtain⟨_,_,_,_,_,_,_,_,_,rfl,_⟩:=h;rfl
       |[_,_,_,_,_,_,_,_]=>obtain⟨_,_,_,_,_,_,_,_,_,_,_,rfl,_⟩:=h;rfl
       |_::_::_::_::_::_::_::_::_::_=>exact h.elim
      ·intro vs σ h
       exact⟨⟨_,rfl,AStep.arith rfl rfl rfl (.inl ⟨rfl,rfl⟩) zI⟩,⟨_,rfl,zIA rfl rfl rfl (by omega) (by rw[show ((1:Int)+i).toNat=1+i by omega];exact hsc)⟩,⟨_,rfl,zIA rfl rfl rfl (by decide) hb0⟩,⟨_,rfl,zIA rfl rfl rfl (by decide) hb1⟩,⟨_,rfl,AStep.boxI rfl rfl⟩,⟨_,rfl,AStep.mkIfc hcon rfl rfl⟩,trivial⟩
      ·intro vs σ h i' o hi ho
       match vs with
       |[]=>
        subst h;cases hi;cases ho
        refine⟨rfl,.inl (.inr ⟨rfl,Q0y.call hΓ rfl rfl rfl rfl ⟨hei,trivial,hvi,trivial⟩ hou (Q5w b0 vc ec hvi hei _) fun r ou' hq hr ho=>?_⟩)⟩
        obtain⟨q,rfl,hN⟩:=hq
        have g1:=Gro.add hw.inO hN
        have e:=Q6n (n:=m.out.length) (g1.old 0 _ rfl)
        exact⟨q,ou',_,rfl,by rw[←e],by rw[←e];exact g1,by simp[addH]⟩
       |[_]=>
        obtain⟨q,ou1,H1,rfl,rfl,g1,hq1⟩:=h;cases hi;cases ho
        refine⟨rfl,.inl (.inr ⟨rfl,Q0y.call hΓ rfl rfl rfl rfl ⟨trivial,trivial,hRi,trivial⟩ g1.ok (Q5w b1 (iB tRes [.sl 1 lc2]) (.ptr (.o q) 0) hRi trivial _) fun r ou' hq hr ho=>?_⟩)⟩
        obtain⟨q2,rfl,hN⟩:=hq
        have g2:=Gro.add g1.inO hN
        have e:=Q6n (n:=m.out.length) (g2.old 0 _ rfl)
        exact⟨q,q2,ou',_,rfl,by rw[←e],by rw[←e];exact g1.trans g2,g2.h q _ hq1,by simp[addH]⟩
       |[_,_]=>obtain⟨q,q2,ou1,H1,rfl,rfl,g,h1,h2⟩:=h;cases hi;cases ho;exact⟨rfl,.inl (.inl ⟨_,_,AStep.ofOp tabOk rfl,rfl,q,q2,ou1,H1,rfl,rfl,g,h1,h2⟩)⟩
       |[_,_,_]=>obtain⟨rfl,q,q2,ou1,H1,rfl,rfl,g,h1,h2⟩:=h;cases hi;cases ho;exact⟨rfl,.inl (.inl ⟨_,_,AStep.ofOp tabOk rfl,rfl,rfl,q,q2,ou1,H1,rfl,rfl,g,h1,h2⟩)⟩
       |[_,_,_,_]=>obtain⟨rfl,rfl,q,q2,ou1,H1,rfl,rfl,g,h1,h2⟩:=h;cases hi;cases ho;exact⟨rfl,.inl (.inl ⟨.bot,_,AStep.ofStore tabOk rfl,rfl,rfl,q,q2,ou1,H1,rfl,setX _ _ _ _,g,h1,h2⟩)⟩
       |[_,_,_,_,_]=>obtain⟨rfl,rfl,q,q2,ou1,H1,rfl,rfl,g,h1,h2⟩:=h;cases hi;cases ho;exact⟨rfl,.inl (.inl ⟨_,_,AStep.ofOp tabOk rfl,rfl,rfl,rfl,q,q2,ou1,H1,rfl,rfl,g,h1,h2⟩)⟩
       |[_,_,_,_,_,_]=>obtain⟨rfl,rfl,rfl,q,q2,ou1,H1,rfl,rfl,g,h1,h2⟩:=h;cases hi;cases ho;exact⟨rfl,.inl (.inl ⟨_,_,AStep.ofOp tabOk rfl,rfl,rfl,rfl,rfl,q,q2,ou1,H1,rfl,rfl,g,h1,h2⟩)⟩
       |[_,_,_,_,_,_,_]=>obtain⟨rfl,rfl,rfl,rfl,q,q2,ou1,H1,rfl,rfl,g,h1,h2⟩:=h;cases hi;cases ho;exact⟨rfl,.inl (.inl ⟨.bot,_,AStep.ofStore tabOk rfl,rfl,rfl,rfl,rfl,_,rfl,q,q2,ou1,H1,rfl,setX _ _ _ _,g,h1,h2⟩)⟩
       |_::_::_::_::_::_::_::_::_=>cases hi
      ·intro vs σ hl h
       match vs with
       |[_,_,_,_,_,_,_,_]=>
        obtain⟨rfl,rfl,rfl,rfl,c1,rfl,q,q2,ou1,H1,hy,rfl,g,h1,h2⟩:=h
        cases hy
        refine zA ?_
        have hw2:=hw.gro g (by simp[ouX]) trivial
        have hM:MR fu fc _ H1 nm { m with c:=.ev s (.bind b1 (.res (L++[.mk t e d])) (.bind b0 v e)),k:=k' }:=MR.ofEv (ou':=(St.set ⟨0,[],ouX (mC (.box (cTr s)) (.ptr (.o q2) 0) vc0 kc m.out m.steps fu fc) m.out.length ou1⟩ (.o 0) (.cells (mC (.box (cTr s)) (.ptr (.o q2) 0) vc0 kc' m.out m.steps fu fc))).ou) hw2
         (.bind b1 _ _ q2 _ _ h2 (hRv.mo (g.mo nm)) (.bind b0 v e q vc ec h1 (hv.mo (g.mo nm)) (he.mo (g.mo nm)))) (hk'.mo (g.mo nm)) h0.ids.2.2.1 hfc rfl rfl (fun _=>rfl)
        exact AFn.fin' rfl (WkF.refl _) (by simp) hM.ok ⟨rfl,H1,nm,_,by rw[hm'],g.mo nm,hM⟩
       |[]|[_]|[_,_]|[_,_,_]|[_,_,_,_]|[_,_,_,_,_]|[_,_,_,_,_,_]|[_,_,_,_,_,_,_]=>cases hl
       |_::_::_::_::_::_::_::_::_::_=>exact h.elim
     ·have hi0:¬0 < i:=by simpa using hb3
      refine zM ?_
      exact cInv ⟨t.alts.length - (i+1),i+1,_root_.id,by omega,⟨⟨by omega,by rw[hcl,hda,Q0k,if_neg fun h=>hi0 h.2]⟩,rfl⟩,
       LessR.of rfl (FrSub.cons rfl (.ofEq rfl) (FrSub.cons rfl (.ofEq rfl) (FrSub.consP rfl (.ofEq rfl) (by simp) (FrSub.consP rfl (.ofEq rfl) hfi (FrSub.consGs rfl rfl hL2i (FrSub.cons rfl (.ofEq rfl) (FrSub.cons rfl (.ofEq rfl) (FrSub.consP rfl (.ofEq rfl) hvi .nil)))))))) ⟨trivial,trivial,by simp,Q0s hfi 1,⟨by simp,Q1v hL2i 1⟩,trivial,trivial,Q0s hvi 1,trivial⟩ zLO rfl rfl hou⟩
    ·have htag:¬a.tag=op:=by simpa using hb2
     refine zM ?_
     exact cInv ⟨t.alts.length - (i+1),i+1,_root_.id,by omega,⟨⟨by omega,by rw[hcl,hda,Q0k,if_neg fun h=>htag h.1]⟩,rfl⟩,
      LessR.of rfl (FrSub.cons rfl (.ofEq rfl) (FrSub.cons rfl (.ofEq rfl) (FrSub.consP rfl (.ofEq rfl) (by simp) (FrSub.consP rfl (.ofEq rfl) hfi (FrSub.consGs rfl rfl hL2i (FrSub.cons rfl (.ofEq rfl) (FrSub.cons rfl (.ofEq rfl) (FrSub.consP rfl (.ofEq rfl) hvi .nil)))))))) ⟨trivial,trivial,by simp,Q0s hfi 1,⟨by simp,Q1v hL2i 1⟩,trivial,trivial,Q0s hvi 1,trivial⟩ zLO rfl rfl hou⟩
   ·have hil2:i=t.alts.length:=by
     have:¬i < t.alts.length:=by simpa using hb1
     omega
    have hcn:Q0k op 0 t.alts=none:=by rw[hcl,hil2,List.drop_length];rfl
    have hpn:Q0m m op v (L++[.mk t e d]) k'=.ok m':=by
     unfold Q0m at hpm
     rw[Fm.t_mk,if_pos h13,hcn]at hpm
     exact hpm
    refine zM ?_
    exact cInv ⟨k'.length,(k',kc',L++[.mk t e d],lc2),_root_.id,by simp,⟨⟨hk',hL2,hpn,hgk.2,by simp only[List.length_cons]at hlen;dsimp only;omega⟩,rfl⟩,
     LessR.of rfl (FrSub.consP rfl (.ofEq rfl) hki (FrSub.consGs rfl rfl hL2i (FrSub.cons rfl (.ofEq rfl) (FrSub.cons rfl (.ofEq rfl) (FrSub.consP rfl (.ofEq rfl) hvi .nil))))) ⟨Q0s hki 1,⟨by simp,Q1v hL2i 1⟩,trivial,trivial,Q0s hvi 1,trivial⟩ zLO rfl rfl hou⟩
end
section
variable {fu:Int}{fc:FcT}{ou:Outer}{H:Hm}{nm:Nm2}{m m':Ms}{tc0 ec0 vc0 kc0:AC}{t:Tr}{e:En}{k:List Fm}{ec kc:AC}{v:Vl}{vc:AC}
theorem Qcl(hΓ:∀g cs,(g,cs)∈Γ->idsL isO cs)(h0:M0 fu fc ou H nm m tc0 ec0 vc0 kc0)(hfc:fc.ids isO)(he:ER H nm e ec)(hv:VR H nm v vc)(hk:KR H nm k kc)(hkl:k.length<=1048576){G:GP}(hGp:∀l,G.p l->HdL l)(hg:gFs G k)(h12:t.op=12)(hx:Q0m m t.n v [] k=.ok m'):
  AFn Tryz.prog Γ 118 [.one (.ptr (.o 0) 0),.one (.box [.box (cTr t),ec,.sl 1 [[vc]],kc])] ou (StQ fu fc H nm (.ok m')):=by
 have hN:=Q37 h0 hk hfc
 have hei:=he.ids
 have hvi:=hv.ids
 have hki:=hk.ids
 have hop:opdN t=1:=by unfold opdN;rw[if_pos (.inr (.inr (.inr h12)))]
 have hoX:=h0.ouX
 rw[hoX]
 generalize hmc:ou=ou0 at hN
 clear hoX
 have d4:¬t.op=4:=by omega
 have d7:¬t.op=7:=by omega
 have d3:¬t.op=3:=by omega
 have d13:¬t.op=13:=by omega
 refine AFn.walk 262 tabOk Tryz.func118 rfl (by kernel_rfl) rfl rfl fun hou=>?_
 refine zA ?_
 refine ACode.drawX tabOk 10 [(9,.one (int (opdN t)))] follows (by kernel_rfl) rfl rfl rfl rfl ?_ ?_
 ·exact⟨⟨_,rfl,AStep.callPure hΓ rfl rfl rfl (by simp[idsF]) hou (Q2d t)⟩,trivial⟩
 refine zA ?_
 refine ACode.cond rfl (fun hb=>absurd hb (by simp[hop])) (fun hb=>?_)
 refine zA ?_
 refine ACode.stEq (σ':=⟨0,[],ouX (mC tc0 ec0 vc0 kc m.out m.steps fu fc) m.out.length ou0⟩) (setX _ _ _ _) ?_
 refine ACode.cond rfl (fun hb=>absurd hb (by simp[d4])) (fun _=>?_)
 refine zA ?_
 refine ACode.cond rfl (fun hb=>absurd hb (by simp[d7])) (fun _=>?_)
 refine zA ?_
 refine ACode.cond rfl (fun hb=>absurd hb (by simp[d3])) (fun _=>?_)
 refine zA ?_
 refine ACode.cond rfl (fun hb=>absurd hb (by simp[d13])) (fun _=>?_)
 refine zA ?_
 refine ACode.cond rfl (fun _=>?_) (fun hb=>absurd hb (by simp[h12]))
 refine ACode.drawX tabOk 14 [(12,.one (.box [vc]))] follows (by kernel_rfl) rfl rfl rfl rfl ?_ ?_
 ·exact⟨⟨_,rfl,zIA rfl rfl rfl (by decide) rfl⟩,trivial⟩
 refine zA ?_
 refine AOps.call1 hΓ rfl rfl rfl rfl rfl rfl rfl ⟨trivial,trivial,hvi,trivial⟩ hN.w.ok (Qfc hΓ hN hfc hk hv hkl hGp hg hx) fun r ou' hq _ how=>?_
 obtain⟨rfl,H',nm',m2,hx2,hmo,hM⟩:=hq
 refine zA ?_
 exact StQ.fin rfl hx2 hmo hM
end
theorem kid_hi(hΓ:∀g cs,(g,cs)∈Γ->idsL isO cs){fu:Int}{ac:AC}(hac:ac.ids isO)(ou:Outer)(H:Hm)(nm:Nm2)(m m':Ms)(t:Tr)(e:En)(d:List Vl)(k:List Fm)(ec kc tc0 ec0 vc0 kc0:AC)(dc:List (List AC))(kt:Nat)(h0:M0 fu ⟨ac,kt⟩ ou H nm m tc0 ec0 vc0 kc0)(he:ER H nm e ec)(hd:VsR H nm d dc)(hk:KR H nm k kc)
  (ht : allT HdL t) {G : GP} (hGp : ∀ l, G.p l -> HdL l) (hg : gFs G k) (hkl : k.length <= 1048576) (hl : d.length = 1) (ho : t.op = 12 ∨ t.op = 13) (hx : kidM fu [] m (.mk t e d) k = .ok m') : AFn Tryz.prog Γ 118 [.one (.ptr (.o 0) 0), .one (.box [.box (cTr t), ec, .sl 1 dc, kc])] ou (StQ fu ⟨ac, kt⟩ H nm (.ok m')) := by
 have hfc:(FcT.mk ac kt).ids isO:=hac
 have hsh:=Q7c (Q44 (fun l h=>HdL.sh h) t ht)
 obtain⟨v,rfl⟩:=list1 hl
 rcases ho with h12|h13
 ·have hop:opdN t=1:=by unfold opdN;rw[if_pos (.inr (.inr (.inr h12)))]
  have hp:Q0m m t.n v [] k=.ok m':=by
   unfold kidM at hx
   rw[if_neg (show ¬(Fm.mk t e [v]).done.length < opdN (Fm.mk t e [v]).t by simp[hop]),if_neg (show ¬(Fm.mk t e [v]).t.op=4 by simp[h12]),if_neg (show ¬(Fm.mk t e [v]).t.op=7 by simp[h12]),if_neg (show ¬(Fm.mk t e [v]).t.op=3 by simp[h12]),if_neg (show ¬(Fm.mk t e [v]).t.op=13 by simp[h12]),if_pos (show (Fm.mk t e [v]).t.op=12 from h12)]at hx
   exact hx
  obtain⟨c0,dcs,rfl,hv0,hds⟩:=hd.consE
  cases hds
  exact Qcl hΓ h0 hfc he hv0 hk hkl hGp hg h12 hp
 ·rw[h13]at hsh
  have hh:=hsh.handle
  obtain⟨s,hs⟩:=Q01 (l:=t.kids) (i:=1) (by omega)
  obtain⟨a,ha⟩:=Q01 (l:=t.alts) (i:=0) (by omega)
  have hb:=(hh.2.2.2 0 a ha).2
  rw[if_pos rfl]at hb
  obtain⟨id,hab⟩:=list1 hb
  have:=AFnP.okStep (Qfk (fns:=[]) hΓ h0 hfc he hd hk (v:=v) rfl h13 hs ha hab) hx
  rwa [hx]at this
end Go.Proofs.YtmdkenkhaicbeaaGreatDoor
namespace Go.Proofs.YtmdkenkhaicbeaaGreatDoor
open Go Go.RowKit
attribute [local go_sem] Oper.semAt_some
def uptoL {α:Type}(f:Nat->α)(k:Nat):List α:=(List.range k).map f
theorem Q5x{α:Type}(f:Nat->α)(k:Nat):uptoL f (k+1)=uptoL f k++[f k]:=by simp[uptoL,List.range_succ]
theorem Q48{α:Type}(f:Nat->α)(k:Nat):(uptoL f k).length=k:=by simp[uptoL]
set_option maxRecDepth 100000 in
set_option maxHeartbeats 2000000 in
theorem Qbz(F:Fence)(n:Nat)(h7:F.fn 187)(hro:F.round=none)(l Bs ob b off len cap:Nat)(zs:List Value)(hreach:len * 8<=140737488351232)(Kp:World->World->Prop)(hKr:∀A,Kp A A)(hKt:∀A B C,Kp A B->Kp B C->Kp A C)
  (hKb : ∀ A B, Kp A B -> B.cell? ⟨Bs, ob, none⟩ = A.cell? ⟨Bs, ob, none⟩) (hKe : ∀ A B j, Kp A B -> j < len -> B.cell? ⟨b, off + j, none⟩ = A.cell? ⟨b, off + j, none⟩) (J Jx : List (Int × Value) -> World -> Prop)
  (hY : ∀ pre x W, J pre W -> pre.length < len -> x = (((len - 1 - pre.length : Nat) : Int), zs.getD (len - 1 - pre.length) undef) -> YieldAt F (n - 1) Tryz.prog l #[.int .i64 x.1, x.2] W fun e W' =>
   (e=.returned (.bool true)/\J (pre++[x]) W'/\Kp W W')∨(e=.returned (.bool false)/\Jx (pre++[x]) W'))
  (W : World) (hBs : W.cell? ⟨Bs, ob, none⟩ = some (.slice (some ⟨b, off, none⟩) len cap)) (hc : ∀ j, j < len -> W.cell? ⟨b, off + j, none⟩ = some (zs.getD j undef)) (h0 : J [] W) (hn : 1 <= n) :
  CallsIn F n Tryz.prog 187 #[.func (.yield l) #[] #[],.pointer (some ⟨Bs,ob,none⟩)] W fun e W'=>(∃v,e=.returned v)/\
   ((∃ys,ys=uptoL (fun j=>(((len - 1 - j:Nat):Int),zs.getD (len - 1 - j) undef)) len/\J ys W')∨(∃pre,True/\Jx pre W')):=by
 refine callsIn_of_wp Tryz.func187 rfl h7 ?_ hro
 simp only[Tryz.ntmps187,List.size_toArray,List.length_cons,List.length_nil,Nat.reduceAdd,Nat.reduceSub,Array.replicate_succ,Array.replicate_zero,List.push_toArray,List.append_toArray,List.nil_append,List.cons_append]
 gi_wp2
 gi_loopw [3] (fun i wr=>∃k:Nat,k<=len/\i=.int .i64 ((len:Int) - 1 - k)/\J (uptoL (fun j=>(((len - 1 - j:Nat):Int),zs.getD (len - 1 - j) undef)) k) wr/\Kp W wr)
  (fun i _ => (intOf i + 1).toNat)
 case atStart=>exact⟨0,Nat.zero_le _,by simp,h0,hKr _⟩
 case round=>
  obtain⟨k,hk,rfl,hJs,hnx⟩:=hrel
  by_cases hlt:k < len
  ·have hex:∃m,m+k+1<=len/\len<=m+k+1:=⟨len - 1 - k,by omega,by omega⟩
   obtain⟨m,hm1,hm2⟩:=hex
   have e1:((len:Int) - 1 - k)=(m:Int):=by omega
   have hml:m < len:=by omega
   have hcx:wr.cell? ⟨b,off+m,none⟩=some (zs.getD m undef):=(hKe W wr m hnx hml).trans (hc m hml)
   have hbx:wr.cell? ⟨Bs,ob,none⟩=some (.slice (some ⟨b,off,none⟩) len cap):=(hKb W wr hnx).trans hBs
   obtain⟨fn,tmps,assign,body,hy,hR⟩:=hY _ ((m:Int),zs.getD m undef) wr hJs (by rw[Q48];exact hlt) (by rw[Q48,show len - 1 - k=m by omega])
   simp only[List.getD_eq_getElem?_getD]at hy hcx
   rw[e1]
   gi_wp2
   refine hR.mono ?_
   rintro e W3 (⟨rfl,hJ3,hk3⟩|⟨rfl,hJx3⟩)
   ·gi_wp2
    go_roundw
    case rel=>exact⟨k+1,by omega,by first|(simp;done)|(simp;omega),by rw[Q5x,show len - 1 - k=m by omega];exact hJ3,hKt _ _ _ hnx hk3⟩
    case measure=>simp[intOf]
   ·gi_wp2
    refine bodyPost_ret (results_none rfl _ _ _) rfl ?_
    exact⟨⟨_,rfl⟩,.inr ⟨_,trivial,hJx3⟩⟩
  ·obtain rfl:k=len:=by omega
   have e1:((k:Int) - 1 - k)=-1:=by omega
   rw[e1]
   gi_wp2
   go_end0
   exact⟨⟨_,rfl⟩,.inl ⟨_,rfl,hJs⟩⟩
end Go.Proofs.YtmdkenkhaicbeaaGreatDoor
namespace Go.Proofs.YtmdkenkhaicbeaaGreatDoor
open Go Go.RowKit
attribute [local go_sem] Oper.semAt_some
set_option maxRecDepth 100000 in
set_option maxHeartbeats 2000000 in
theorem Qc0(F:Fence)(n:Nat)(h7:F.fn 187)(hro:F.round=none)(l Bs ob:Nat){α:Type}(a:Option Addr)(cap:Nat)(J:List α->World->Prop)
  (W:World) (hBs:W.cell? ⟨Bs,ob,none⟩=some (.slice a 0 cap)) (h0:J [] W):
  CallsIn F n Tryz.prog 187 #[.func (.yield l) #[] #[],.pointer (some ⟨Bs,ob,none⟩)] W fun e W'=>(∃v,e=.returned v)/\J [] W':=by
 refine callsIn_of_wp Tryz.func187 rfl h7 ?_ hro
 simp only[Tryz.ntmps187,List.size_toArray,List.length_cons,List.length_nil,Nat.reduceAdd,Nat.reduceSub,Array.replicate_succ,Array.replicate_zero,List.push_toArray,List.append_toArray,List.nil_append,List.cons_append]
 gi_wp2
 gi_loopw [3] (fun i wr=>i=.int .i64 (-1)/\J [] wr)
  (fun i _=>(intOf i+1).toNat)
 case atStart=>exact⟨by simp,h0⟩
 case round=>
  obtain⟨rfl,hJs⟩:=hrel
  gi_wp2
  go_end0
  exact⟨⟨_,rfl⟩,hJs⟩
end Go.Proofs.YtmdkenkhaicbeaaGreatDoor
namespace Go.Proofs.YtmdkenkhaicbeaaGreatDoor
open Go Go.RowKit Go.Abs
abbrev encX (x:Int×Value):Array Value:=#[.int .i64 x.1,x.2]
abbrev encF (zs:List Value){len:Nat}(j:Fin len):Array Value:=encX (((j.val:Nat):Int),zs.getD j.val undef)
theorem Qbx{C:Ctx}{w:World}{Bs ob b off len cap:Nat}{zs:List Value}(hreach:len * 8<=140737488351232)(hpB:C.prot ⟨Bs,ob,none⟩)(hpe:∀j,j < len->C.prot ⟨b,off+j,none⟩)(hlt:∀a,C.prot a->a.block < w.heap.size)
  (hBs:w.cell? ⟨Bs,ob,none⟩=some (.slice (some ⟨b,off,none⟩) len cap)) (hc:∀j,j < len->w.cell? ⟨b,off+j,none⟩=some (zs.getD j undef)):
  SeqStopsK Fence.wide 1 Tryz.prog 187 #[.pointer (some ⟨Bs,ob,none⟩)] (encF zs (len:=len)) (KpC C) (fun ys=>ys.map Fin.val=uptoL (fun j=>len - 1 - j) len) (fun _=>True) len w:=by
 intro l J Jx W hb hJ hJx hY h0
 let f:Fin len->Int×Value:=fun j=>(((j.val:Nat):Int),zs.getD j.val undef)
 refine (Qbz Fence.wide 1 trivial rfl l Bs ob b off len cap zs hreach (KpC C) (fun A=>⟨KeepsWalks.refl A,fun _ _=>rfl⟩) (fun A B D h k=>⟨h.1.trans k.1,fun a ha=>(k.2 a ha).trans (h.2 a ha)⟩) (fun A B h=>h.2 _ hpB) (fun A B j h hj=>h.2 _ (hpe j hj))
  (fun ys W1 => ∃ pre : List (Fin len), ys = pre.map f /\ pre.map Fin.val = uptoL (fun j => len - 1 - j) pre.length /\ J pre W1) (fun ys W1 => ∃ pre : List (Fin len), Jx pre W1) (fun pre x W1 h1 h2 h3 => ?_) W
  ((hb.cell (p := ⟨Bs, ob, none⟩) (hlt _ hpB)).trans hBs) (fun j hj => (hb.cell (p := ⟨b, off + j, none⟩) (hlt _ (hpe j hj))).trans (hc j hj)) ⟨[], rfl, rfl, h0⟩ (Nat.le_refl 1)).mono ?_
 ·obtain⟨pre',rfl,h5,h4⟩:=h1
  simp only[List.length_map]at h2 h3
  have hj:len - 1 - pre'.length < len:=by omega
  have hx:x=f ⟨len - 1 - pre'.length,hj⟩:=h3
  subst hx
  obtain⟨fn,tmps,assign,body,hy,hR⟩:=hY pre' ⟨len - 1 - pre'.length,hj⟩ W1 h4 h2
  refine⟨fn,tmps,assign,body,hy,hR.mono ?_⟩
  rintro e W' (⟨g1,g2,g3⟩|⟨g1,g2⟩)
  ·refine .inl ⟨g1,⟨pre'++[⟨len - 1 - pre'.length,hj⟩],by rw[List.map_append];rfl,?_,g2⟩,g3⟩
   rw[List.length_append,List.length_singleton,Q5x,List.map_append,h5]
   rfl
  ·exact .inr ⟨g1,_,g2⟩
 ·rintro e W' ⟨h1,h2|h2⟩
  ·obtain⟨ys,rfl,pre,h3,h4,h5⟩:=h2
   refine⟨h1,.inl ⟨pre,?_,h5⟩⟩
   have:=congrArg List.length h3
   rw[Q48,List.length_map]at this
   show pre.map Fin.val=_
   rw[h4,←this]
  ·obtain⟨ys,_,pre,h3⟩:=h2
   exact⟨h1,.inr ⟨pre,trivial,h3⟩⟩
theorem Qai{C:Ctx}{w:World}{Bs ob cap:Nat}{a:Option Addr}{zs:List Value}(hpB:C.prot ⟨Bs,ob,none⟩)(hlt:∀a,C.prot a->a.block < w.heap.size)(hBs:w.cell? ⟨Bs,ob,none⟩=some (.slice a 0 cap)):
  SeqStopsK Fence.wide 1 Tryz.prog 187 #[.pointer (some ⟨Bs,ob,none⟩)] (encF zs (len:=0)) (KpC C) (fun ys=>ys.map Fin.val=uptoL (fun j=>0 - 1 - j) 0) (fun _=>True) 0 w:=by
 intro l J Jx W hb hJ hJx hY h0
 refine (Qc0 Fence.wide 1 trivial rfl l Bs ob a cap J W ((hb.cell (p:=⟨Bs,ob,none⟩) (hlt _ hpB)).trans hBs) h0).mono fun e W' h=>⟨h.1,.inl ⟨[],rfl,h.2⟩⟩
theorem Qby{C:Ctx}{w:World}{Bs ob len cap:Nat}{a:Option Addr}{zs:List Value}(hreach:len * 8<=140737488351232)(hpB:C.prot ⟨Bs,ob,none⟩)(hlt:∀a,C.prot a->a.block < w.heap.size)
  (hBs:w.cell? ⟨Bs,ob,none⟩=some (.slice a len cap)) (h:len=0∨∃b off,a=some ⟨b,off,none⟩/\(∀j,j < len->C.prot ⟨b,off+j,none⟩)/\∀j,j < len->w.cell? ⟨b,off+j,none⟩=some (zs.getD j undef)):
  SeqStopsK Fence.wide 1 Tryz.prog 187 #[.pointer (some ⟨Bs,ob,none⟩)] (encF zs (len:=len)) (KpC C) (fun ys=>ys.map Fin.val=uptoL (fun j=>len - 1 - j) len) (fun _=>True) len w:=by
 rcases h with rfl|⟨b,off,rfl,hp,hc⟩
 ·exact Qai hpB hlt hBs
 ·exact Qbx hreach hpB hp hlt hBs hc
end Go.Proofs.YtmdkenkhaicbeaaGreatDoor
namespace Go.Proofs.YtmdkenkhaicbeaaGreatDoor
open Go Go.Abs Go.CoreX
variable {Γ:List (Nat×List AC)}
theorem Qde(c:AC)(hc:c.ids isO):APure Tryz.prog Γ 178 [.one c] (.one (.fn (.func 187) [] [.box [c]])):=by
 intro ou
 refine AFn.walk 4 tabOk Tryz.func178 rfl (by kernel_rfl) rfl rfl fun hou=>?_
 iterate 3 (first|((with_reducible refine oj ?_);refine zau ?_)|(with_reducible refine zst ?_)|((with_reducible refine Q0q ?_ ?_);rfl)|(with_reducible refine ok ?_;first|refine ACode.condT rfl ?_|refine ACode.condF rfl ?_))
 refine AOps.freeze1 (.l 0) 1 rfl rfl ?_
 refine zA ?_
 exact APure.fin rfl (WkF.ofEq rfl) (by simp[hc]) hou rfl
section
variable {fu:Int}{ac:AC}
theorem FsR.get{H:Hm}{nm:Nm2}:∀{fs:List Fm}{l:List (List AC)}{i:Nat}{f:Fm},FsR H nm fs l->fs[i]?=some f->∃c,l[i]?=some [c]/\FR H nm f c
 |_,_,_,_,.nil,h=>by cases h
 |_,_,0,_,.cons f c fs cs hf h,hi=>by cases hi;exact⟨c,rfl,hf⟩
 |_,_,i+1,_,.cons f c fs cs hf h,hi=>by simpa using FsR.get h (by simpa using hi)
theorem FsR.len{H:Hm}{nm:Nm2}:∀{fs:List Fm}{l:List (List AC)},FsR H nm fs l->l.length=fs.length
 |_,_,.nil=>rfl
 |_,_,.cons f c fs cs hf h=>by simp[FsR.len h]
def pushF (fs k:List Fm)(pre:List Nat):List Fm:=pre.foldl (fun kk j=>fs.getD j default::kk) k
theorem Q8p(fs k:List Fm)(pre:List Nat)(j:Nat):pushF fs k (pre++[j])=fs.getD j default::pushF fs k pre:=by simp[pushF]
theorem Q8o(fs k:List Fm):∀n,n<=fs.length->pushF fs k (uptoL (fun j=>fs.length - 1 - j) n)=fs.drop (fs.length - n)++k
 |0,_=>by simp[pushF,uptoL]
 |n+1,h=>by
  rw[Q5x,Q8p,Q8o fs k n (by omega)]
  have h1:fs.length - (n+1) < fs.length:=by omega
  rw[show fs.length - 1 - n=fs.length - (n+1) by omega,List.drop_eq_getElem_cons h1,List.getD_eq_getElem?_getD,List.getElem?_eq_getElem h1]
  simp only[Option.getD_some,List.cons_append]
  rw[show fs.length - (n+1)+1=fs.length - n by omega]
theorem Qep(hΓ:∀g cs,(g,cs)∈Γ->idsL isO cs)(hac:ac.ids isO)(ou:Outer)(H:Hm)(nm:Nm2)(m:Ms)(k fs:List Fm)(kc tc0 ec0 vc0:AC)(kt:Nat)(vc:AC)(a:Vl)(c:AC)(h0:M0 fu ⟨ac,kt⟩ ou H nm m tc0 ec0 vc0 kc)(hk:KR H nm k kc)(hv:VR H nm (.res fs) vc)(ha:VR H nm a c)(hfl:(fs++k).length<=1048576):
  AFn Tryz.prog Γ 156 [.one (.ptr (.o 0) 0),.one vc,.one (.sl 1 [[c]])] ou (StQ fu ⟨ac,kt⟩ H nm (.ok { m with c:=.rt a,k:=fs++k })):=by
 have hfc:(FcT.mk ac kt).ids isO:=hac
 have hoX:=h0.ouX
 have hai:=ha.ids
 have hki:=hk.ids
 rw[hoX]
 have hw:=h0.w
 rw[hoX]at hw
 generalize hmc:ou=ou0 at hw
 clear hoX
 obtain⟨l,rfl,hf⟩:∃l,vc=iB tRes [.sl 1 l]/\FsR H nm fs l:=by
  rcases hv.isRes with ⟨fs',l,e,rfl,hf⟩|⟨hno,_⟩
  ·cases e;exact⟨l,rfl,hf⟩
  ·exact absurd rfl (hno fs)
 have hli:=hf.ids
 have n1:notT tClo (iB tRes [.sl 1 l]):=.inr ⟨_,_,_,rfl,rfl⟩
 have n2:notT tCap (iB tRes [.sl 1 l]):=.inr ⟨_,_,_,rfl,rfl⟩
 refine AFn.walkM 137 tabOk Tryz.func156 rfl (by kernel_rfl) rfl rfl fun hou F w C hnl hi=>?_
 refine XCode.seq ?_
 iterate 2 (first|((with_reducible refine oj ?_);refine zau ?_)|(with_reducible refine zst ?_)|((with_reducible refine Q0q ?_ ?_);rfl)|(with_reducible refine ok ?_;first|refine ACode.condT rfl ?_|refine ACode.condF rfl ?_))
 refine AOps.freeze1 (.l 0) 3 rfl rfl ?_
 refine zA ?_
 refine cInv ?_
 refine XCode.seqR ?_
 refine XCode.seq ?_
 refine zA ?_
 refine cInv ?_
 refine XCode.block ?_
 refine XCode.seq ?_
 refine ACode.region ?_
 refine zS (AStep.assertNo Q40 rfl zClo rfl rfl n1) ?_
 refine zA ?_
 refine cInv ?_
 refine XCode.condF rfl ?_
 refine XCode.seq ?_
 refine ACode.region ?_
 refine zS (AStep.assertNo Q3o rfl zCap rfl rfl n2) ?_
 refine zA ?_
 refine cInv ?_
 refine XCode.condF rfl ?_
 refine XCode.seq ?_
 refine ACode.region ?_
 refine zS (AStep.assertYes Qcw rfl rfl) ?_
 refine zA ?_
 refine cInv ?_
 refine XCode.condT rfl ?_
 refine XCode.seq ?_
 refine zA ?_
 refine cInv ?_
 refine XCode.seq ?_
 refine zA ?_
 refine cInv ?_
 refine XCode.condT rfl ?_
 refine XCode.seqR ?_
 refine XCode.seq ?_
 refine zA ?_
 refine AOps.callC hΓ (Qde (.sl 1 l) hli) rfl rfl rfl rfl rfl rfl rfl hou (by simp[hli]) ?_
 refine zA ?_
 refine cInv ?_
 have hfv:(FV.one (.fn (.func 187) [] [.box [.sl 1 l]])).ids isO:=by simp[hli]
 have hcv:(FV.one (.sl 1 [[c]])).ids isO:=by simp[hai]
 refine XCode.lessR hΓ (fr':=[(102,.one (.fn (.func 187) [] [.box [.sl 1 l]])),(3,.one (.box [.ptr (.o 0) 0])),(2,.one (.sl 1 [[c]]))]) (σ':=⟨0,[],ouX (mC tc0 ec0 vc0 kc m.out m.steps fu ⟨ac,kt⟩) m.out.length ou0⟩) (ρ:=_root_.id) (LessR.of rfl zFW (by simp[hli,hai,Q1v hli,Q0s hai]) zLO rfl rfl hou) ?_
 refine XCode.block ?_
 have hwi:=fun kc' (hkr:KR H nm (pushF fs k []) kc')=>hkr.ids
 have hll:=hf.len
 intro w1 C1 tmps hg hi1 hf1
 obtain⟨u,hu,hr⟩:=hf1.2 102 _ rfl
 obtain⟨Bs,ob,ad,cap,rfl,hpB,hcB,zs,hz⟩:=hr.boxSl
 have hseq:SeqStopsK Fence.wide 1 Tryz.prog 187 #[.pointer (some ⟨Bs,ob,none⟩)] (encF zs (len:=l.length)) (KpC C1) (fun ys=>ys.map Fin.val=uptoL (fun j=>l.length - 1 - j) l.length) (fun _=>True) l.length w1:=by
  refine Qby (by simp at hfl;omega) hpB hi1.prot hcB ?_
  rcases hz with hz|⟨b,off,rfl,hz⟩
  ·exact .inl hz
  ·refine .inr ⟨b,off,rfl,fun j hj=>?_,fun j hj=>?_⟩
   ·obtain⟨f,hfj⟩:=Q01 (l:=fs) (i:=j) (by omega)
    obtain⟨cj,hcj,_⟩:=hf.get hfj
    exact (hz j cj hcj).2.1
   ·obtain⟨f,hfj⟩:=Q01 (l:=fs) (i:=j) (by omega)
    obtain⟨cj,hcj,_⟩:=hf.get hfj
    exact (hz j cj hcj).1
 let J:List (Fin l.length)->St->Prop:=fun pre σ=>∃kc',KR H nm (pushF fs k (pre.map Fin.val)) kc'/\σ=⟨0,[],ouX (mC tc0 ec0 vc0 kc' m.out m.steps fu ⟨ac,kt⟩) m.out.length ou0⟩
 have hPl:∀mc',Q3m ⟨0,[],ouX mc' m.out.length ou0⟩:=by
  intro mc' i o hio
  have hpo:Qhb o:=by
   cases i with
   |l k=>cases hio
   |o k=>
    cases k with
    |zero=>cases hio;trivial
    |succ k=>exact hw.pl (k+1) o hio
  cases o <;> first|trivial|exact hpo
 have hJp:∀pre σ,J pre σ->Q3m σ:=by
  rintro pre σ ⟨kc',_,rfl⟩
  exact hPl _
 refine Qjt (E:=⟨Tryz.prog,tab,Γ,137,[]⟩) (α:=Fin l.length) J (fun x=>((tmps.setIfInBounds 103 (.int .i64 ((x.val:Nat):Int))).setIfInBounds 104 (zs.getD x.val undef)).setIfInBounds 11 (zs.getD x.val undef)) hg hi1 hf1 hJp ⟨kc,hk,rfl⟩ ?_ (by simp[Act.eval,hu]) ?_ hseq (fun x=>rfl) ?_ ?_ ?_
 ·intro j x hx
  have:∀(fr:Fr),(∀p∈fr,p.2.ids isO)->∀j x,Fr.get j fr=some x->x.ids isO:=by
   intro fr
   induction fr with
   |nil=>intro _ j x h;cases h
   |cons p fr ih=>
    intro hp j x h
    obtain⟨j',y⟩:=p
    simp only[Fr.get]at h
    cases hb:Nat.beq j' j with
    |true=>rw[hb]at h;cases h;exact hp _ (List.mem_cons_self ..)
    |false=>rw[hb]at h;exact ih (fun q hq=>hp q (List.mem_cons_of_mem _ hq)) j x h
  refine this _ (fun p hp=>?_) j x hx
  rcases List.mem_cons.1 hp with rfl|hp
  ·exact hfv
  rcases List.mem_cons.1 hp with rfl|hp
  ·simp
  rcases List.mem_cons.1 hp with rfl|hp
  ·exact hcv
  ·cases hp
 ·intro args w'
  exact Qkq Tryz.func187 rfl (by kernel_rfl) args w'
 ·intro l' x W K hK
  have e0:((#[103,104]:Array Tmp).zip (encF zs x)).foldl (fun t (p,v)=>t.setIfInBounds p v) tmps=(tmps.setIfInBounds 103 (.int .i64 ((x.val:Nat):Int))).setIfInBounds 104 (zs.getD x.val undef):=by simp[encF,encX]
  rw[e0]
  refine wpIn_assign rfl rfl rfl ?_
  have h104:104 < (tmps.setIfInBounds 103 (.int .i64 ((x.val:Nat):Int))).size:=by simp[hf1.1]
  have e:Act.eval ⟨(tmps.setIfInBounds 103 (.int .i64 ((x.val:Nat):Int))).setIfInBounds 104 (zs.getD x.val undef),[]⟩ (.tmp 104)=zs.getD x.val undef:=by
   simp only[Act.eval]
   rw[Array.getD_eq_getD_getElem?,Array.getElem?_setIfInBounds_self_of_lt h104]
   rfl
  show K ⟨((tmps.setIfInBounds 103 (.int .i64 ((x.val:Nat):Int))).setIfInBounds 104 (zs.getD x.val undef)).setIfInBounds 11 (Act.eval ⟨(tmps.setIfInBounds 103 (.int .i64 ((x.val:Nat):Int))).setIfInBounds 104 (zs.getD x.val undef),[]⟩ (.tmp 104)),[]⟩ W
  rw[e]
  exact hK
 ·intro l' pre x W C' σ' hlt hgW hiW hfW hJ'
  obtain⟨kc',hkr,rfl⟩:=hJ'
  have hlx:x.val < l.length:=x.isLt
  obtain⟨f,hfx⟩:=Q01 (l:=fs) (i:=x.val) (by omega)
  obtain⟨cx,hcx,hfr⟩:=hf.get hfx
  have hci:=hkr.ids
  obtain⟨t,e,d⟩:=f
  cases hfr with
  |mk _ _ _ ec dc nx hxi he hd=>
  have hei:=he.ids
  have hdi:=hd.ids
  have hrx:R W C' (.box [.box (cTr t),ec,.sl 1 dc,nx]) (zs.getD x.val undef):=by
   rcases hz with hz|⟨b,off,_,hz⟩
   ·omega
   ·exact R.chg hgW.chg _ _ (by simp[hei,hdi,hxi]) (hz x.val _ hcx).2.2
  have hf2:=((hfW.put (d:=103) (x:=.one (int ((x.val:Nat):Int))) (u:=.int .i64 ((x.val:Nat):Int)) (show 103 < 137 by decide) (show RF W C' (.one (int _)) _ from ⟨rfl,rfl⟩)).put (d:=104) (show 104 < 137 by decide) (show RF W C' (.one (.box [.box (cTr t),ec,.sl 1 dc,nx])) _ from hrx)).put (d:=11) (show 11 < 137 by decide) (show RF W C' (.one (.box [.box (cTr t),ec,.sl 1 dc,nx])) _ from hrx)
  refine AIn.block (E:=⟨Tryz.prog,tab,Γ,137,[]⟩) (K:=fun e _ σ''=>e=.normal/\J (pre++[x]) σ'') (AIn.drawn follows ?_ ?_ ?_) _ W C' W C' _ (Goes.refl _ _ _ _) hiW hf2 l' 0
  ·rintro fr σ ⟨h,_⟩;cases h
  ·simp
  ·refine AAny.drawC2 tabOk 21 [18,19,20] [] (fun vs σ=>match vs with
    |[]=>σ=⟨0,[],ouX (mC tc0 ec0 vc0 kc' m.out m.steps fu ⟨ac,kt⟩) m.out.length ou0⟩
    |[g]=>g=.one (.box [.box (cTr t),ec,.sl 1 dc,kc'])/\σ=⟨0,[],ouX (mC tc0 ec0 vc0 kc' m.out m.steps fu ⟨ac,kt⟩) m.out.length ou0⟩
    |[g,a]=>g=.one (.box [.box (cTr t),ec,.sl 1 dc,kc'])/\a=.one (.ptr (.o 0) 0)/\σ=⟨0,[],ouX (mC tc0 ec0 vc0 kc' m.out m.steps fu ⟨ac,kt⟩) m.out.length ou0⟩
    |[g,a,b]=>g=.one (.box [.box (cTr t),ec,.sl 1 dc,kc'])/\a=.one (.ptr (.o 0) 0)/\b=.one (.ptr (.o 0) 3)/\σ=⟨0,[],ouX (mC tc0 ec0 vc0 kc' m.out m.steps fu ⟨ac,kt⟩) m.out.length ou0⟩
    |_=>False) follows (by kernel_rfl) rfl rfl (by decide) (by kernel_rfl) (by kernel_rfl) rfl rfl ?_ ?_ (by decide) ?_ ?_
   ·intro vs σ h
    match vs with
    |[]=>subst h;rfl
    |[_]=>obtain⟨_,rfl⟩:=h;rfl
    |[_,_]=>obtain⟨_,_,rfl⟩:=h;rfl
    |[_,_,_]=>obtain⟨_,_,_,rfl⟩:=h;rfl
    |_::_::_::_::_=>exact h.elim
   ·intro vs σ h
    exact trivial
   ·intro vs σ h i o hi ho
    match vs with
    |[]=>subst h;cases hi;cases ho;exact⟨rfl,.inl (.inl ⟨_,_,AStep.boxI rfl rfl,rfl,rfl⟩)⟩
    |[_]=>obtain⟨rfl,rfl⟩:=h;cases hi;cases ho;exact⟨rfl,.inl (.inl ⟨_,_,AStep.ofOp tabOk rfl,rfl,rfl,rfl⟩)⟩
    |[_,_]=>obtain⟨rfl,rfl,rfl⟩:=h;cases hi;cases ho;exact⟨rfl,.inl (.inl ⟨_,_,AStep.ofOp tabOk rfl,rfl,rfl,rfl,rfl⟩)⟩
    |_::_::_::_=>cases hi
   ·intro vs σ hl h
    match vs,hl with
    |[g,a,b],_=>
     obtain⟨rfl,rfl,rfl,rfl⟩:=h
     refine AOps.store tabOk rfl rfl rfl ?_
     refine AOps.nil ?_
     refine⟨rfl,.box [.box (cTr t),ec,.sl 1 dc,kc'],?_,?_⟩
     ·rw[List.map_append]
      show KR H nm (pushF fs k (pre.map Fin.val++[x.val])) _
      rw[Q8p,List.getD_eq_getElem?_getD,hfx]
      exact .cons _ _ _ _ _ _ _ he hd hkr
     ·exact setX _ _ _ _
 ·intro D xs W C' σ' hD hS hgo hiW hfW hJ' hm
  have hpl:=hJp xs σ' hJ'
  obtain⟨kc',hkr,rfl⟩:=hJ'
  have hS':xs.map Fin.val=uptoL (fun j=>l.length - 1 - j) l.length:=hS
  rw[hS',hll,Q8o fs k fs.length (Nat.le_refl _),Nat.sub_self,List.drop_zero]at hkr
  have hci:=hkr.ids
  refine Qfx (E:=⟨Tryz.prog,tab,Γ,137,[]⟩) tabOk hnl hi (Nat.le_trans hg.stp.size hD) hgo hiW hpl hfW hm (fun _ _ h=>h) (fun ds=>?_)
  refine ACode.seq ?_
  refine ACode.drawC2 tabOk 10 [7,8,9] [(3,.one (.box [c]))] (fun vs σ=>match vs with
   |[]=>σ=⟨0,[],ouX (mC tc0 ec0 vc0 kc' m.out m.steps fu ⟨ac,kt⟩) m.out.length ou0⟩
   |[s]=>s=.bot/\σ=⟨0,[],ouX (mC nilPE ec0 vc0 kc' m.out m.steps fu ⟨ac,kt⟩) m.out.length ou0⟩
   |[s,a]=>s=.bot/\a=.one (.ptr (.o 0) 0)/\σ=⟨0,[],ouX (mC nilPE ec0 vc0 kc' m.out m.steps fu ⟨ac,kt⟩) m.out.length ou0⟩
   |[s,a,b]=>s=.bot/\a=.one (.ptr (.o 0) 0)/\b=.one (.ptr (.o 0) 2)/\σ=⟨0,[],ouX (mC nilPE ec0 vc0 kc' m.out m.steps fu ⟨ac,kt⟩) m.out.length ou0⟩
   |_=>False) follows (by kernel_rfl) rfl rfl (by decide) (by kernel_rfl) (by kernel_rfl) rfl rfl ?_ ?_ (by decide) ?_ ?_
  ·intro vs σ h
   match vs with
   |[]=>subst h;rfl
   |[_]=>obtain⟨_,rfl⟩:=h;rfl
   |[_,_]=>obtain⟨_,_,rfl⟩:=h;rfl
   |[_,_,_]=>obtain⟨_,_,_,rfl⟩:=h;rfl
   |_::_::_::_::_=>exact h.elim
  ·intro vs σ h
   exact⟨⟨_,rfl,zIA rfl rfl rfl (by decide) rfl⟩,trivial⟩
  ·intro vs σ h i o hi ho
   match vs with
   |[]=>subst h;cases hi;cases ho;exact⟨rfl,.inl (.inl ⟨_,_,AStep.ofStore tabOk rfl,rfl,setX _ _ _ _⟩)⟩
   |[_]=>obtain⟨rfl,rfl⟩:=h;cases hi;cases ho;exact⟨rfl,.inl (.inl ⟨_,_,AStep.ofOp tabOk rfl,rfl,rfl,rfl⟩)⟩
   |[_,_]=>obtain⟨rfl,rfl,rfl⟩:=h;cases hi;cases ho;exact⟨rfl,.inl (.inl ⟨_,_,AStep.ofOp tabOk rfl,rfl,rfl,rfl,rfl⟩)⟩
   |_::_::_::_=>cases hi
  ·intro vs σ hl h
   match vs,hl with
   |[s,a',b],_=>
    obtain⟨rfl,rfl,rfl,rfl⟩:=h
    refine zA ?_
    refine⟨StQ.fin rfl rfl (.refl _ _) (MR.ofRt (m:=m) (k:=fs++k) hw ha hkr h0.ids.2.1 hfc rfl rfl (fun _=>rfl)),?_⟩
    show Q3m (St.set ⟨0,[],ouX (mC nilPE ec0 vc0 kc' m.out m.steps fu ⟨ac,kt⟩) m.out.length ou0⟩ (.o 0) (.cells (mC nilPE ec0 c kc' m.out m.steps fu ⟨ac,kt⟩)))
    rw[setX]
    exact hPl _
theorem MoreC.yes(hΓ:∀g cs,(g,cs)∈Γ->idsL isO cs)(hac:ac.ids isO):MoreC true fu ac Γ:=
 ⟨fun _ ou H nm m k fs kc tc0 ec0 vc0 kt vc a c h0 hk hv ha _ hfl=>Qep hΓ hac ou H nm m k fs kc tc0 ec0 vc0 kt vc a c h0 hk hv ha hfl,
 fun _ ou H nm m m' t e d k ec kc tc0 ec0 vc0 kc0 dc kt h0 he hd hk ht hg hkl hl ho hx=>kid_hi hΓ hac ou H nm m m' t e d k ec kc tc0 ec0 vc0 kc0 dc kt h0 he hd hk (Q44 (fun _ h=>⟨FragL.sh h,FragL.al h⟩) t ht) (G:=G1 true) (fun _ h=>⟨FragL.sh h,FragL.al h⟩) hg hkl hl ho hx⟩
end
def fragB (hi:Bool)(l:Lab):Bool:=
 Go.CoreX.shape ⟨l.op,l.n,l.binds,l.ops,l.alts⟩&&((decide (0<=l.op)&&decide (l.op<=8))||(hi&&(decide (l.op=12)||decide (l.op=13))))&&(!(decide (l.op=8))||(decide (l.n=0)||decide (l.n=1)||decide (l.n=2)||decide (l.n=5)||decide (l.n=6)||decide (l.n=7))) &&
 decide (l.binds.length<=1048576)&&decide (l.alts.length<=1048576)&&(l.alts.all fun a=>decide (a.binds.length<=1048576))&&decide (l.ops.length<=1048576)&&(!(decide (l.op=1))||(decide (-1073741824<=l.n)&&decide (l.n<=1073741823)))&&(!(decide (l.op=5))||(l.ops.take l.binds.length==List.replicate l.binds.length 2))
theorem Q1d{hi:Bool}{l:Lab}(h:fragB hi l=true):FragL hi l:=by
 unfold fragB at h
 simp only[Bool.and_eq_true,Bool.or_eq_true,Bool.not_eq_true',decide_eq_true_eq,decide_eq_false_iff_not,List.all_eq_true,beq_iff_eq]at h
 obtain⟨⟨⟨⟨⟨⟨⟨⟨h1,h2⟩,h3⟩,h4⟩,h5⟩,h6⟩,h7⟩,h8⟩,h9⟩:=h
 refine⟨shpQ_of h1,?_,fun h=>?_,h4,h5,h6,h7,fun h=>?_,fun h i hi=>?_⟩
 ·rcases h2 with h2|⟨h2,h3⟩
  ·exact .inl h2
  ·exact .inr ⟨h2,h3⟩
 ·rcases h3 with h3|h3
  ·exact absurd h h3
  ·omega
 ·rcases h8 with h8|h8
  ·exact absurd h h8
  ·exact h8
 ·rcases h9 with h9|h9
  ·exact absurd h h9
  ·have:=congrArg (fun r=>r[i]?) h9
   simp only[List.getElem?_take_of_lt hi,List.getElem?_replicate,if_pos hi]at this
   exact this
theorem A_ok(op:Int)(al:List Alt)(ks:List Tr):APure Tryz.prog Γ 32 [.one (int op),.one (.sl 2 (al.map cAlt)),.one (.sl 1 (Q2u ks))] (.one (.box (cNd (.mk op 0 [] ks al)))):=by
 intro ou
 refine AFn.walk 13 tabOk Tryz.func32 rfl (by kernel_rfl) rfl rfl fun hou=>?_
 iterate 14 (first|((with_reducible refine oj ?_);refine zau ?_)|(with_reducible refine zst ?_)|((with_reducible refine Q0q ?_ ?_);rfl)|(with_reducible refine ok ?_;first|refine ACode.condT rfl ?_|refine ACode.condF rfl ?_))
 refine AOps.freeze1 (.l 0) 6 rfl rfl ?_
 refine zA ?_
 refine APure.fin rfl (.one (Wk.box ?_)) (by simp) hou rfl
 exact .cons (.refl _) (.cons (.refl _) (.cons (.nilS 1) (.cons (.any _) (.cons (.refl _) (.cons (.refl _) .nil)))))
theorem Q6i{H:Type}:∀l:List (DataW H),Rows.uptoBulkAll l=Q3c Rows.uptoBulk l
 |[]=>rfl
 |d::l=>by simp only[Rows.uptoBulkAll,Q3c,List.map_cons,List.sum_cons]at *;rw[Q6i l];rfl
theorem Qer{H:Type}(l:List (DataW H)):Q3c Rows.uptoBulk l+1<=Rows.uptoBulk (.agg l):=by
 simp only[Rows.uptoBulk,Q6i];omega
theorem Qfv{H:Type}(l r:List (DataW H)):Q3c Rows.uptoBulk l+1<=Rows.uptoBulk (.slice l r):=by
 simp only[Rows.uptoBulk,Q6i];omega
theorem Qky{H:Type}:1<=Rows.uptoBulk (DataW.nil:DataW H):=by simp[Rows.uptoBulk]
section
variable {H:Type}{enc:TypeId×Value->H}{w:World}
abbrev I64:={i:Int // IntKind.i64.min<=i/\i<=IntKind.i64.max}
theorem Q4g(n:Nat):Opens enc Tryz.prog w Rows.uptoBulk 3 n (fun i:I64=>[int i.1]) (fun _=>1):=by
 intro cs x h
 obtain⟨i,rfl,rfl,hw⟩:=DataW.trod_int Tryz.underlying3 h
 refine⟨⟨i,?_⟩,⟨_,_,rfl,⟨rfl,rfl⟩,rfl⟩,by simp[Rows.uptoBulk]⟩
 simpa[Lit.wf]using hw
theorem Q53{t e:TypeId}{s:Nat}(ht:Tryz.prog.underlying t=some (.slice e))(hs:Tryz.prog.cellsOf e=s)(h0:0 < s){α:Type}{c:α->List AC}{wt:α->Nat}(n:Nat)(he:∀m,m < n->Opens enc Tryz.prog w Rows.uptoBulk e m c wt):
  Opens enc Tryz.prog w Rows.uptoBulk t n (fun l:List α=>[.sl s (l.map c)]) (fun l=>wtAll wt l+1):=by
 cases n with
 |zero=>exact Opens.zero
 |succ n=>exact Opens.slice Qfv Qky ht hs h0 (he n (by omega))
theorem wt_one{α:Type}(l:List α):wtAll (fun _=>1) l=l.length:=by
 unfold wtAll
 induction l with
 |nil=>rfl
 |cons a l ih=>simp only[List.map_cons,List.sum_cons,List.length_cons,ih];omega
theorem Q62(n:Nat):Opens enc Tryz.prog w Rows.uptoBulk 28 n (fun l:List Int=>[.sl 1 (l.map cI)]) (fun l=>l.length+1):=by
 refine Opens.as (Q53 Tryz.underlying28 (s:=1) (by kernel_rfl) (by omega) n (fun m _=>Q4g m)) fun l=>⟨l.map (·.1),?_,?_⟩
 ·simp only[List.map_map];rfl
 ·rw[wt_one];simp
def bAlt (a:Alt):Nat:=a.binds.length+3
def bAlts (l:List Alt):Nat:=(l.map bAlt).sum
def bEx (x:Ex):Nat:=x.binds.length+x.kids.length+bAlts x.alts+6
def bExs (l:List Ex):Nat:=(l.map bEx).sum
theorem Qk5(n:Nat):Opens enc Tryz.prog w Rows.uptoBulk 51 n cAlt bAlt:=by
 cases n with
 |zero=>exact Opens.zero
 |succ n=>
  refine Opens.as (Opens.struct Qer Tryz.underlying51 (.cons rfl (by kernel_rfl) (Q4g n) (fun _=>rfl) (.cons rfl (by kernel_rfl) (Q62 n) (fun _=>rfl) (.nil _))) (fun _=>(show (2:Nat)=_ by kernel_rfl))) ?_
  rintro⟨i,l,_⟩
  exact⟨⟨i.1,l⟩,rfl,by show l.length+3<=1+(l.length+1+0)+1;omega⟩
theorem opensEx(n:Nat):Opens enc Tryz.prog w Rows.uptoBulk 31 n cEx bEx:=by
 cases n with
 |zero=>exact Opens.zero
 |succ n=>
  have ha:=Q53 (enc:=enc) (w:=w) (t:=29) Tryz.underlying29 (s:=2) (by kernel_rfl) (by omega) n (fun m _=>Qk5 m)
  refine Opens.as (Opens.struct Qer Tryz.underlying31 (.cons rfl (by kernel_rfl) (Q4g n) (fun _=>rfl) (.cons rfl (by kernel_rfl) (Q4g n) (fun _=>rfl) (.cons rfl (by kernel_rfl) (Q62 n) (fun _=>rfl) (.cons rfl (by kernel_rfl) (Q62 n) (fun _=>rfl) (.cons rfl (by kernel_rfl) ha (fun _=>rfl) (.nil _)))))) (fun _=>(show (5:Nat)=_ by kernel_rfl))) ?_
  rintro⟨i,j,b,k,l,_⟩
  refine⟨⟨i.1,j.1,b,k,l⟩,rfl,?_⟩
  show b.length+k.length+bAlts l+6<=1+(1+(b.length+1+(k.length+1+(wtAll bAlt l+1+0))))+1
  have:wtAll bAlt l=bAlts l:=rfl
  omega
theorem Qk4(n:Nat):Opens enc Tryz.prog w Rows.uptoBulk 22 n (fun l:List Ex=>[.sl 5 (l.map cEx)]) (fun l=>bExs l+1):=
 Q53 Tryz.underlying22 (s:=5) (by kernel_rfl) (by omega) n (fun m _=>opensEx m)
theorem Qjr{t e:TypeId}{base:Nat}{r:Reach}{W:World}{v:Value}{C:Ctx}{c:AC}(ht:Tryz.prog.underlying t=some (.slice e))(h:Value.okWide Tryz.prog W r base t v)(hr:RV W C [c] v.cells.toList):RF W C (.one c) v:=by
 obtain⟨a,len,cap,rfl⟩:=WideShapes.okWide_slice ht h
 obtain⟨u,us,he,h1,h2⟩:=hr
 simp[Value.cells]at he
 obtain⟨rfl,rfl⟩:=he
 exact h1
end
theorem Qc9{α:Type}{f:α->Nat}:∀{l:List α}{a:α},a∈l->f a<=(l.map f).sum
 |b::l,a,h=>by
  simp only[List.map_cons,List.sum_cons]
  rcases List.mem_cons.1 h with rfl|h
  ·omega
  ·have:=Qc9 (f:=f) h;omega
theorem Qca{α:Type}{f:α->Nat}(hf:∀a,1<=f a):∀l:List α,l.length<=(l.map f).sum
 |[]=>by simp
 |b::l=>by
  have h1:=hf b
  have h2:=Qca hf l
  simp only[List.map_cons,List.sum_cons,List.length_cons];omega
theorem Q9e:∀l:List Alt,(l.flatMap (·.binds)).length<=bAlts l
 |[]=>by simp[bAlts]
 |a::l=>by
  have:=Q9e l
  simp only[bAlts,bAlt,List.flatMap_cons,List.length_append,List.map_cons,List.sum_cons]at *
  omega
theorem okB_of{e:List Ex}(h:bExs e<=1048576):okB e:=by
 have h1:=Qca (f:=bEx) (fun x=>by simp only[bEx];omega) e
 have hx:∀x∈e,bEx x<=1048576:=fun x hx=>by
  have h2:bEx x<=bExs e:=Qc9 hx
  omega
 have h1':e.length<=bExs e:=h1
 refine⟨⟨by omega,fun x hx1=>?_⟩,fun x hx1=>?_⟩
 ·have h2:=hx x hx1
  simp only[bEx]at h2
  have h3:=Qca (f:=bAlt) (fun a=>by simp only[bAlt];omega) x.alts
  have h3':x.alts.length<=bAlts x.alts:=h3
  refine⟨by omega,by omega,by omega,fun a ha=>?_⟩
  have h4:bAlt a<=bAlts x.alts:=Qc9 ha
  simp only[bAlt]at h4
  omega
 ·have h2:=hx x hx1
  simp only[bEx]at h2
  have h3:=Q9e x.alts
  omega
theorem Qd5{W:World}(h:laidMetH Tryz.prog [("provenance/core.arity",Rows.laid_provenance_core_arity)] W):∀g cs,(g,cs)∈Γc->RG W (ctx0 W) cs g:=by
 have ht:Lib.TabIs Tryz.prog W "provenance/core.arity" .i64 [2,2,2,2,2,2,2,1,2,1,2,3]:=
  Lib.tabIs_of_head (rest:=[]) (g:=0) (t:=174) (n:=12) (by kernel_rfl) (by kernel_rfl) (by kernel_rfl) Tryz.underlying3 (by kernel_rfl) (by kernel_rfl) h
 have hg:Tryz.prog.globalNamed "provenance/core.arity" = some 0:=by kernel_rfl
 intro g cs hm
 simp[Γc]at hm
 obtain⟨rfl,rfl⟩:=hm
 exact RG.ofVar hg ht rfl
end Go.Proofs.YtmdkenkhaicbeaaGreatDoor
namespace Go.CoreX
theorem Qbw{e:List Ex}{x:Ex}(h:Q14 false e x=0):∀b∈Q07 x,b<=1048575:=by
 have hr:ranges x=0:=by
  unfold Q14 at h
  split at h
  ·cases h
  ·unfold Q1i at h
   split at h
   ·cases h
   ·split at h
    ·rename_i hr;exact absurd h hr
    ·rename_i hr;simpa using hr
 have hx:x.binds.all Q26=true/\x.alts.all (Q30 x.op)=true:=by
  unfold ranges at hr
  split at hr
  ·cases hr
  split at hr
  ·cases hr
  rename_i h1
  split at hr
  ·cases hr
  rename_i h2
  exact⟨by simpa using h1,by simpa using h2⟩
 have ok:∀n,Q26 n=true->n<=1048575:=fun n hn=>by
  simp[Q26,between]at hn;omega
 intro b hb
 unfold Q07 Q17 at hb
 rcases List.mem_append.1 hb with hb|hb
 ·split at hb
  ·exact ok b (List.all_eq_true.1 hx.1 b hb)
  ·cases hb
 ·obtain⟨a,ha,hba⟩:=List.mem_flatMap.1 hb
  have:=List.all_eq_true.1 hx.2 a ha
  unfold Q30 at this
  exact ok b (List.all_eq_true.1 (Bool.and_eq_true_iff.1 this).2 b hba)
end Go.CoreX
namespace Go.Proofs.YtmdkenkhaicbeaaGreatDoor
open Go Go.Abs Go.CoreX
variable {Γ:List (Nat×List AC)}
end Go.Proofs.YtmdkenkhaicbeaaGreatDoor
namespace Go.Abs
def earlyB (l:List Oper)(S:List Nat)(D:List (Nat×Nat)):Bool:=D.all fun p=>!(inS S p.1)&&(match S[p.2]? with|some s=>(match l[s]? with|some o=>o.after.any (fun e=>Region.binds .any e&&Nat.beq e.on p.1)|none=>false)|none=>false) &&
 (match l[p.1]? with|some o=>o.after.toList.all (fun e=>!Region.binds .any e||!(inS (S++D.map (·.1)) e.on))|none=>false)
def fD (S:List Nat)(D:List (Nat×Nat))(vs0 vs:List FV)(B:Nat->Bool):Nat->Option FV:=fun j=>bif inS S j then fC S vs j else bif inS (D.map (·.1)) j&&B j then vs0[j]? else none
theorem Q55(S T:List Nat)(j:Nat):inS (S++T) j=(inS S j||inS T j):=by simp[inS]
theorem Q7t{S:List Nat}{j:Nat}:inS S j=true↔j∈S:=by
 constructor
 ·intro h
  obtain⟨s,hs,he⟩:=List.any_eq_true.1 h
  obtain rfl:s=j:=Nat.eq_of_beq_eq_true he
  exact hs
 ·intro h;exact List.any_eq_true.2 ⟨j,h,by simp⟩
section
variable {E:Env}{l:List Oper}{K:Cont}{frb:Fr}
theorem AAny.drawC3{fr:Fr}{σ0:St}{hd tl:List Oper}{vs0:List FV}(hT:TabOk E.P E.T)(n:Nat)(S:List Nat)(D:List (Nat×Nat))(cs:List (Nat×FV))(G:List FV->St->Prop)(hm:E.P.follows .mixedOrders=true)(hB:drawB l n=true)(hsp:Q28 n l=some (hd,tl))(hfb:Fr.woO (dsts hd) fr=some frb)
  (hn:S.Nodup) (hch:chainB l S=true) (hqb:Q5h l (S++D.map (·.1)) n=true) (hea:earlyB l S D=true) (h0:G [] σ0)
  (hrun:∀vs σ,G vs σ->Q0i E l.toArray l frb σ (S.map (fun i=>(i,FV.bot))++cs) 0 hd []=some vs0) (hcs:∀vs σ,G vs σ->∀i v,lookC i cs=some v->inS (D.map (·.1)) i=false->∃o,l[i]?=some o/\HStep E l.toArray o (depFr l vs0 o++frb) σ σ v)
  (hD : ∀ vs σ, G vs σ -> ∀ p ∈ D, vs.length <= p.2 -> ∃ o v, l[p.1]? = some o /\ vs0[p.1]? = some v /\ dstOk E.N o.dst = true /\ HStep E l.toArray o (depFr l vs0 o ++ frb) σ σ v) (hSl : ∀ i ∈ S ++ D.map (·.1), i < n)
  (hs : ∀ vs σ, G vs σ -> ∀ i o, S[vs.length]? = some i -> l[i]? = some o -> dstOk E.N o.dst = true /\ Q2t E l.toArray o (Q0f l (mixV S vs0 (fC S vs)) o ++ frb) σ (fun v σ' => G (vs ++ [v]) σ') (fun ps σ' => K (.panic ps) frb σ'))
  (htail : ∀ vs σ, vs.length = S.length -> G vs σ -> AOps E l.toArray tl K (Q0h (mixV S vs0 (fC S vs)) 0 hd ++ frb) σ) : AAny E l K fr σ0 := by
 have hnl:n < l.length:=by
  have:=hB
  simp only[drawB,Bool.and_eq_true,decide_eq_true_eq]at this
  exact this.1.1.1.1.1
 have hlast:∀k o,l[k]?=some o->k < n->o.after.all (fun e=>!Region.binds .any e||decide (e.on < k))=true:=fun k o hk hkn=>by
  have hB2:=hB
  simp only[drawB,Bool.and_eq_true,decide_eq_true_eq]at hB2
  exact List.all_eq_true.1 hB2.2 (o,k) (by
   rw[List.mem_zipIdx_iff_getElem?,List.getElem?_take_of_lt hkn]
   simpa using hk)
 have depEq:∀(o:Oper) (v1 v2:Nat->Option FV),(∀e∈o.after.toList,Region.binds .any e=true->v1 e.on=v2 e.on)->Q0f l v1 o=Q0f l v2 o:=fun o v1 v2 h=>by
  unfold Q0f
  refine Q0u fun e he=>?_
  cases hb:Region.binds .any e with
  |false=>rfl
  |true=>simp only[cond_true];rw[h e he hb]
 have hDp:∀p∈D,inS S p.1=false/\(∃s o,S[p.2]?=some s/\l[s]?=some o/\∃e∈o.after.toList,Region.binds .any e=true/\e.on=p.1)/\∀o,l[p.1]?=some o->(o.after.toList.all fun e=>!Region.binds .any e||!(inS (S++D.map (·.1)) e.on))=true:=fun p hp=>by
  have h1:=List.all_eq_true.1 hea p hp
  simp only[Bool.and_eq_true,Bool.not_eq_true']at h1
  obtain⟨⟨h2,h3⟩,h4⟩:=h1
  refine⟨h2,?_,fun o ho=>?_⟩
  ·cases hs':S[p.2]? with
   |none=>rw[hs']at h3;cases h3
   |some s=>
    rw[hs']at h3
    cases ho:l[s]? with
    |none=>simp only[ho]at h3;cases h3
    |some o=>
     simp only[ho]at h3
     rw[←Array.any_toList]at h3
     obtain⟨e,he,hb⟩:=List.any_eq_true.1 h3
     simp only[Bool.and_eq_true]at hb
     exact⟨s,o,rfl,ho,e,he,hb.1,Nat.eq_of_beq_eq_true hb.2⟩
  ·rw[ho]at h4;exact h4
 obtain⟨hsp1,hsp2⟩:=Q20 hsp
 refine AAny.drawS2 n (S++D.map (·.1)) vs0 (fun f σ=>∃vs B,vs.length<=S.length/\f=fD S D vs0 vs B/\G vs σ/\∀p∈D,p.2 < vs.length->B p.1=true) hm hB hsp hfb
  ⟨[], fun _ => false, by simp, by funext j; simp only [fD, Bool.and_false, cond_false]; cases S <;> (cases inS _ j <;> rfl), h0, fun p hp h => by simp at h⟩ (fun f σ ⟨vs, B, _, hf, _⟩ i hi => ?_) ?_ ?_ ?_
 ·have hi:inS (S++D.map (·.1)) i=false:=hi
  rw[Q55,Bool.or_eq_false_iff]at hi
  rw[hf,fD,hi.1,hi.2];rfl
 ·intro i o hi hS hlo
  have hS':inS (S++D.map (·.1)) i=false:=hS
  rw[Q55,Bool.or_eq_false_iff]at hS'
  have hio:hd[i]?=some o:=by rw[←hsp1,List.getElem?_take_of_lt hi];exact hlo
  have key:∀vs σ,G vs σ->∃v,vs0[i]?=some v/\dstOk E.N o.dst=true/\HStep E l.toArray o (depFr l vs0 o++frb) σ σ v:=fun vs σ hG=>by
   obtain⟨v,h1,h3,h4⟩:=Q3e (vs:=vs0) hT hlast hd 0 [] vs0 rfl (fun i o hi=>by
    have hi2:i < n:=by
     have:=(List.getElem?_eq_some_iff.1 hi).1
     rw[←hsp1]at this;simp at this;omega
    rw[←hsp1,List.getElem?_take_of_lt hi2]at hi
    exact⟨by simpa using hi,by omega⟩) (hrun vs σ hG) (List.nil_append _) i o hio
   rw [Nat.zero_add] at h4
   refine⟨v,h1,h3,?_⟩
   rcases h4 with h4|h4
   ·have hl:lookC i cs=some v:=by
     have:∀{S:List Nat},(S.any fun k=>Nat.beq k i)=false->lookC i (S.map (fun i=>(i,FV.bot))++cs)=lookC i cs:=fun {S} hS=>by
      induction S with
      |nil=>rfl
      |cons s S ih=>
       simp only[List.any_cons,Bool.or_eq_false_iff]at hS
       simp only[List.map_cons,List.cons_append,lookC,hS.1,cond_false]
       exact ih hS.2
     rw[this hS'.1]at h4;exact h4
    obtain⟨o',ho',hst⟩:=hcs vs σ hG i v hl hS'.2
    rw[hlo]at ho'
    cases ho'
    exact hst
   ·exact h4.2
  have hq:(o.after.toList.all fun e=>!Region.binds .any e||!((S++D.map (·.1)).any fun k=>Nat.beq k e.on))=true:=by
   have h1:=List.all_eq_true.1 hqb (o,i) (by
    rw[List.mem_zipIdx_iff_getElem?,List.getElem?_take_of_lt hi]
    simpa using hlo)
   have h2:inS (S++D.map (·.1)) i=false:=hS
   simp only[h2,Bool.false_or]at h1
   exact h1
  obtain⟨v,h1,h3,_⟩:=key [] σ0 h0
  refine⟨v,h1,h3,hq,fun f σ ⟨vs,B,_,_,hG,_⟩=>?_⟩
  obtain⟨v',h1',_,h4⟩:=key vs σ hG
  rw[h1]at h1'
  cases h1'
  exact h4
 ·rintro f σ i o ⟨vs,B,hlen,rfl,hG,hBv⟩ hS hlo hfi hdep
  have hdB:∀e∈o.after.toList,Region.binds .any e=true->inS S e.on=false->inS (D.map (·.1)) e.on=true->B e.on=true:=fun e he hb h1 h2=>by
   have h3:=hdep e he hb (by show inS _ _=true;rw[Q55,h1,h2];rfl)
   simp only[fD,h1,h2,cond_false,Bool.true_and]at h3
   cases hBe:B e.on with
   |true=>rfl
   |false=>rw[hBe]at h3;cases h3
  cases hiS:inS S i with
  |true=>
   obtain⟨s,hsS,he⟩:=List.any_eq_true.1 hiS
   obtain rfl:s=i:=Nat.eq_of_beq_eq_true he
   have hfi':fC S vs s=none:=by simpa[fD,hiS]using hfi
   obtain⟨p,hp⟩:=List.mem_iff_getElem?.1 hsS
   have hpS:=(List.getElem?_eq_some_iff.1 hp).1
   have hpv:p=vs.length:=by
    rcases Nat.lt_trichotomy p vs.length with h1|h1|h1
    ·rw[Q81 hn hp h1]at hfi'
     have:=(List.getElem?_eq_none_iff.1 hfi');omega
    ·exact h1
    ·exfalso
     obtain⟨q,rfl⟩:∃q,p=q+1:=⟨p - 1,by omega⟩
     obtain⟨i0,hi0⟩:∃i0,S[q]?=some i0:=⟨S[q],List.getElem?_eq_getElem (by omega)⟩
     obtain⟨e,he,hb,heo⟩:=Q86 hch hi0 hp hlo
     have hin:inS S e.on=true:=by rw[heo];exact Q7t.2 (List.mem_of_getElem? hi0)
     have h2:=hdep e he hb (by show inS _ _=true;rw[Q55,hin];rfl)
     simp only[fD,hin,cond_true]at h2
     rw[heo,Q96 hn hi0 (by omega)]at h2
     cases h2
   subst hpv
   obtain⟨k2,k3⟩:=hs vs σ hG s o hp hlo
   have hdf:Q0f l (mixV (S++D.map (·.1)) vs0 (fD S D vs0 vs B)) o=Q0f l (mixV S vs0 (fC S vs)) o:=depEq o _ _ fun e he hb=>by
    show (bif inS (S++D.map (·.1)) e.on then fD S D vs0 vs B e.on else vs0[e.on]?)=(bif inS S e.on then fC S vs e.on else vs0[e.on]?)
    rw[Q55]
    cases h1:inS S e.on with
    |true=>simp[fD,h1]
    |false=>
     cases h2:inS (D.map (·.1)) e.on with
     |true=>simp[fD,h1,h2,hdB e he hb h1 h2]
     |false=>rfl
   rw[hdf]
   refine⟨k2,k3.mono fun v σ' hG'=>⟨vs++[v],B,by simp;omega,?_,hG',fun q hq hql=>?_⟩⟩
   ·funext j
    have hup:=congrFun (fC_upd (vs:=vs) (v:=v) hn hp) j
    by_cases e:s=j
    ·subst e
     simp only[updV,if_true]at hup ⊢
     simp only[fD,hiS,cond_true];exact hup
    ·simp only[updV,if_neg e]at hup ⊢
     simp only[fD,hup]
   ·simp only[List.length_append,List.length_singleton]at hql
    rcases Nat.lt_or_ge q.2 vs.length with h|h
    ·exact hBv q hq h
    ·obtain⟨d1,⟨s2,o2,d2,d3,e,d4,d5,d6⟩,_⟩:=hDp q hq
     rw[show q.2=vs.length by omega]at d2
     rw[hp]at d2;cases d2
     rw[hlo]at d3;cases d3
     have:=hdB e d4 d5 (by rw[d6];exact d1) (by rw[d6];exact Q7t.2 (List.mem_map.2 ⟨q,hq,rfl⟩))
     rw[d6]at this;exact this
  |false=>
   have hS2:inS (S++D.map (·.1)) i=true:=hS
   rw[Q55,hiS,Bool.false_or]at hS2
   obtain⟨q,hq,hqi⟩:=List.mem_map.1 (Q7t.1 hS2)
   subst hqi
   obtain⟨d1,_,d3⟩:=hDp q hq
   have hBi:B q.1=false:=by
    cases hBe:B q.1 with
    |false=>rfl
    |true=>
     exfalso
     have hvl:vs.length<=q.2∨q.2 < vs.length:=by omega
     obtain⟨o2,v2,h1,h2,_⟩:∃o v,l[q.1]?=some o/\vs0[q.1]?=some v/\True:=by
      obtain⟨o2,v2,h1,h2,_⟩:=hD [] σ0 h0 q hq (Nat.zero_le _)
      exact⟨o2,v2,h1,h2,trivial⟩
     simp[fD,hiS,hS2,hBe,h2]at hfi
   have hle:vs.length<=q.2:=by
    rcases Nat.lt_or_ge q.2 vs.length with h|h
    ·rw[hBv q hq h]at hBi;cases hBi
    ·exact h
   obtain⟨o2,v,e1,e2,e3,e4⟩:=hD vs σ hG q hq hle
   rw[hlo]at e1;cases e1
   have hdd:Q0f l (mixV (S++D.map (·.1)) vs0 (fD S D vs0 vs B)) o=depFr l vs0 o:=by
    unfold Q0f depFr
    refine Q0u fun e he=>?_
    cases hb:Region.binds .any e with
    |false=>rfl
    |true=>
     have h1:=List.all_eq_true.1 (d3 o hlo) e he
     rw[hb]at h1
     simp only[Bool.not_true,Bool.false_or,Bool.not_eq_true']at h1
     have h2:((S++D.map (·.1)).any fun k=>Nat.beq k e.on)=false:=h1
     simp only[cond_true,mixV,h2,cond_false]
     rfl
   rw[hdd]
   refine⟨e3,.inl (.inl ⟨v,σ,e4,vs,fun j=>Nat.beq q.1 j||B j,hlen,?_,hG,fun p hp hpl=>by show (_||B p.1)=true;rw[hBv p hp hpl,Bool.or_true]⟩)⟩
   funext j
   by_cases e:q.1=j
   ·subst e
    simp[updV,fD,hiS,hS2,e2]
   ·simp only[updV,if_neg e,fD,Q08 e,Bool.false_or]
 ·rintro f σ ⟨vs,B,hlen,rfl,hG,hBv⟩ hall
  have hvl:vs.length=S.length:=by
   rcases Nat.lt_or_ge vs.length S.length with h1|h1
   ·exfalso
    obtain⟨i0,hi0⟩:∃i0,S[vs.length]?=some i0:=⟨S[vs.length],List.getElem?_eq_getElem h1⟩
    have hm:=List.mem_of_getElem? hi0
    have:=hall i0 (List.mem_append.2 (.inl hm)) (hSl i0 (List.mem_append.2 (.inl hm)))
    simp only[fD,Q7t.2 hm,cond_true]at this
    rw[Q96 hn hi0 (Nat.le_refl _)]at this
    cases this
   ·omega
  have heq:mixV (S++D.map (·.1)) vs0 (fD S D vs0 vs B)=mixV S vs0 (fC S vs):=by
   funext j
   show (bif inS (S++D.map (·.1)) j then fD S D vs0 vs B j else vs0[j]?)=(bif inS S j then fC S vs j else vs0[j]?)
   rw[Q55]
   cases h1:inS S j with
   |true=>simp[fD,h1]
   |false=>
    cases h2:inS (D.map (·.1)) j with
    |true=>
     have hm:=Q7t.1 h2
     have h3:=hall j (List.mem_append.2 (.inr hm)) (hSl j (List.mem_append.2 (.inr hm)))
     simp only[fD,h1,h2,cond_false,Bool.true_and]at h3
     cases hBe:B j with
     |true=>simp[fD,h1,h2,hBe]
     |false=>rw[hBe]at h3;cases h3
    |false=>rfl
  rw[heq]
  exact htail vs σ hvl hG
end
theorem ACode.drawC3{E:Env}{l:List Oper}{K:Cont}{frb:Fr}{id:Nat}{fr:Fr}{σ0:St}{hd tl:List Oper}{vs0:List FV}(hT:TabOk E.P E.T)(n:Nat)(S:List Nat)(D:List (Nat×Nat))(cs:List (Nat×FV))(G:List FV->St->Prop)(hm:E.P.follows .mixedOrders=true)(hB:drawB l n=true)(hsp:Q28 n l=some (hd,tl))(hfb:Fr.woO (dsts hd) fr=some frb)
  (hn:S.Nodup) (hch:chainB l S=true) (hqb:Q5h l (S++D.map (·.1)) n=true) (hea:earlyB l S D=true) (h0:G [] σ0) (hrun0:Q0i E l.toArray l frb σ0 (S.map (fun i=>(i,FV.bot))++cs) 0 hd []=some vs0)
  (hrun:∀vs σ,G vs σ->Q0i E l.toArray l frb σ (S.map (fun i=>(i,FV.bot))++cs) 0 hd []=some vs0) (hcs:∀vs σ,G vs σ->∀i v,lookC i cs=some v->inS (D.map (·.1)) i=false->∃o,l[i]?=some o/\HStep E l.toArray o (depFr l vs0 o++frb) σ σ v)
  (hD:∀vs σ,G vs σ->∀p∈D,vs.length<=p.2->∃o v,l[p.1]?=some o/\vs0[p.1]?=some v/\dstOk E.N o.dst=true/\HStep E l.toArray o (depFr l vs0 o++frb) σ σ v) (hSl:∀i∈S++D.map (·.1),i < n)
  (hs:∀vs σ,G vs σ->∀i o,S[vs.length]?=some i->l[i]?=some o->dstOk E.N o.dst=true/\Q2t E l.toArray o (Q0f l (mixV S vs0 (fC S vs)) o++frb) σ (fun v σ'=>G (vs++[v]) σ') (fun ps σ'=>K (.panic ps) frb σ'))
  (htail:∀vs σ,vs.length=S.length->G vs σ->AOps E l.toArray tl K (Q0h (mixV S vs0 (fC S vs)) 0 hd++frb) σ):ACode E (.region id l.toArray true) K fr σ0:=AAny.code hm (AAny.drawC3 hT n S D cs G hm hB hsp hfb hn hch hqb hea h0 hrun hcs hD hSl hs htail)
end Go.Abs
namespace Go.CoreX
theorem Qd2(l:List Int)(x:Int):∀(g i j:Nat),i<=j->i<=bsGo l x g i j/\bsGo l x g i j<=j
 |0,i,j,h=>⟨Nat.le_refl _,h⟩
 |g+1,i,j,h=>by
  unfold bsGo
  split
  ·split
   ·have:=Qd2 l x g ((i+j) / 2+1) j (by omega);omega
   ·have:=Qd2 l x g i ((i+j) / 2) (by omega);omega
  ·exact⟨Nat.le_refl _,h⟩
theorem Q5t(l:List Int)(x:Int):∀(g g' i j:Nat),j - i<=g->j - i<=g'->bsGo l x g i j=bsGo l x g' i j
 |0,0,i,j,_,_=>rfl
 |0,g'+1,i,j,h,_=>by unfold bsGo;rw[if_neg (by omega)]
 |g+1,0,i,j,_,h=>by unfold bsGo;rw[if_neg (by omega)]
 |g+1,g'+1,i,j,h,h'=>by
  unfold bsGo
  split
  ·split
   ·exact Q5t l x g g' _ _ (by omega) (by omega)
   ·exact Q5t l x g g' _ _ (by omega) (by omega)
  ·rfl
theorem bsAt_le(l:List Int)(x:Int):bsAt l x<=l.length:=(Qd2 l x l.length 0 l.length (by omega)).2
theorem Qio{l:List Int}{x:Int}{i j:Nat}(h:i < j):bsGo l x (j - i) i j=if l.getD ((i+j) / 2) 0 < x then bsGo l x (j - ((i+j) / 2+1)) ((i+j) / 2+1) j else bsGo l x ((i+j) / 2 - i) i ((i+j) / 2):=by
 obtain⟨g,hg⟩:∃g,j - i=g+1:=⟨j - i - 1,by omega⟩
 rw[hg]
 conv=>lhs;unfold bsGo
 rw[if_pos h]
 split
 ·exact Q5t _ _ _ _ _ _ (by omega) (by omega)
 ·exact Q5t _ _ _ _ _ _ (by omega) (by omega)
end Go.CoreX
namespace Go.Proofs.YtmdkenkhaicbeaaGreatDoor
open Go Go.Abs Go.CoreX
variable {Γ:List (Nat×List AC)}
theorem Qhz(a:Int):APure Tryz.prog Γ 171 [.one (int a)] (.one (.lit (.bool false))):=by
 intro ou
 refine AFn.walk 6 tabOk Tryz.func171 rfl (by kernel_rfl) rfl rfl fun hou=>?_
 refine zA ?_
 refine APure.fin rfl (WkF.ofEq ?_) (by simp) hou rfl
 simp
theorem Qhy(a:Int):APure Tryz.prog Γ 194 [.one (int a)] (.one (.lit (.bool false))):=by
 intro ou
 refine AFn.walk 6 tabOk Tryz.func194 rfl (by kernel_rfl) rfl rfl fun hou=>?_
 refine zA ?_
 refine APure.fin rfl (WkF.ofEq ?_) (by simp) hou rfl
 simp
theorem Less_ok(hΓ:∀g cs,(g,cs)∈Γ->idsL isO cs)(a b:Int):APure Tryz.prog Γ 137 [.one (int a),.one (int b)] (.one (.lit (.bool (decide (a < b))))):=by
 intro ou
 refine AFn.walk 17 tabOk Tryz.func137 rfl (by kernel_rfl) rfl rfl fun hou=>?_
 refine zA ?_
 refine AOps.callC hΓ (Qhz a) rfl rfl rfl rfl rfl rfl rfl hou (by simp[idsF]) ?_
 refine zM ?_
 exact APure.fin rfl (WkF.ofEq rfl) (by simp) hou rfl
theorem Q4p(hΓ:∀g cs,(g,cs)∈Γ->idsL isO cs)(l:List Int)(hl:l.length<=1048576)(x:Int):
  APure Tryz.prog Γ 181 [.one (.sl 1 (l.map cI)),.one (int x)] (.tup [.one (int (bsAt l x:Nat)),.one (.lit (.bool (bsIs l x)))]):=by
 intro ou
 refine AFn.walk 54 tabOk Tryz.func181 rfl (by kernel_rfl) rfl rfl fun hou=>?_
 refine zA ?_
 refine ACode.loopR hΓ (α:=Nat×Nat) (fun j=>[(8,.one (int j.2)),(7,.one (int j.1)),(6,.one (int (l.map cI).length)),(1,.one (int x)),(0,.one (.sl 1 (l.map cI)))])
  (fun j=>⟨0,[],ou⟩) (fun m j=>j.1<=j.2/\j.2<=l.length/\bsGo l x (j.2 - j.1) j.1 j.2=bsAt l x/\m=j.2 - j.1) (a0:=(0,(l.map cI).length)) (ρ:=id) ⟨by simp,by simp,by simp[bsAt],rfl⟩ (LessR.of rfl (by (repeat' first|exact FrSub.nil|refine zfc ?_|refine zfo ?_|refine zfp ?_);all_goals simp) (by simp) zLO rfl rfl hou) fun m j hj=>?_
 obtain⟨lo,hi'⟩:=j
 obtain⟨h2,h3,h4,rfl⟩:=hj
 simp only at h2 h3 h4 ⊢
 refine zA ?_
 refine ACode.cond rfl (fun hb2=>?_) (fun hb2=>?_)
 ·have hlt:lo < hi':=by simpa using hb2
  obtain⟨a,ha⟩:=Q01 (l:=l) (i:=(lo+hi') / 2) (by omega)
  have hga:l.getD ((lo+hi') / 2) 0=a:=by rw[List.getD_eq_getElem?_getD,ha];rfl
  rw[Qio hlt,hga]at h4
  refine zA ?_
  refine zS (AStep.arith rfl rfl rfl (.inl ⟨rfl,rfl⟩) zI) ?_
  refine zA ?_
  refine zS (AStep.convInt rfl (by rw[Tryz.underlying3];rfl) Tryz.underlying147 rfl (by constructor <;> simp[IntKind.min,IntKind.max,IntKind.signed,IntKind.bits] <;> omega)) ?_
  refine zA ?_
  refine zS (AStep.shr rfl rfl rfl (by omega) (by decide)) ?_
  have hmid:((lo:Int)+(hi':Int)) / 2 ^ (1:Int).toNat=(((lo+hi') / 2:Nat):Int):=by simp
  rw[hmid]
  refine zA ?_
  refine zS (AStep.convInt rfl (by rw[Tryz.underlying147];rfl) Tryz.underlying3 rfl zI) ?_
  refine zA ?_
  refine zS (zIA rfl rfl rfl (by omega) (Q0a ha)) ?_
  refine zA ?_
  refine AOps.callC hΓ (Less_ok hΓ a x) rfl rfl rfl rfl rfl rfl rfl hou (by simp[idsF]) ?_
  refine zA ?_
  refine ACode.cond rfl (fun hb3=>?_) (fun hb3=>?_)
  ·rw[if_pos (by simpa using hb3)]at h4
   refine zA ?_
   refine zS (AStep.arith rfl rfl rfl (.inl ⟨rfl,rfl⟩) zI) ?_
   refine zA ?_
   exact cInv ⟨hi' - ((lo+hi') / 2+1),((lo+hi') / 2+1,hi'),id,by omega,⟨by simp;omega,by simp;omega,h4,rfl⟩,LessR.of rfl (by (repeat' first|exact FrSub.nil|refine zfc ?_|refine zfo ?_|refine zfp ?_);all_goals simp) (by simp) zLO rfl rfl hou⟩
  ·rw[if_neg (by simpa using hb3)]at h4
   refine zA ?_
   exact cInv ⟨(lo+hi') / 2 - lo,(lo,(lo+hi') / 2),id,by omega,⟨by simp;omega,by simp;omega,h4,rfl⟩,LessR.of rfl (by (repeat' first|exact FrSub.nil|refine zfc ?_|refine zfo ?_|refine zfp ?_);all_goals simp) (by simp) zLO rfl rfl hou⟩
 ·have hge:lo=hi':=by simp at hb2;omega
  subst hge
  have h5:bsAt l x=lo:=by rw[←h4,Nat.sub_self];rfl
  repeat ((fail_if_success ((with_reducible refine oj ?_);refine AOps.atDst 35 rfl ?_));first|refine zO ?_)
  by_cases hlt:lo < l.length
  ·obtain⟨a,ha⟩:=Q01 hlt
   have hga:l.getD lo 0=a:=by rw[List.getD_eq_getElem?_getD,ha];rfl
   refine AOps.wk 34 rfl (y:=.one (.lit (.bool true))) (.ofEq (by simpa using hlt)) ?_
   refine zM ?_
   refine zS (zIA rfl rfl rfl (by omega) (Q0a ha)) ?_
   repeat ((fail_if_success ((with_reducible refine oj ?_);refine AOps.atDst 42 rfl ?_));first|refine zO ?_)
   by_cases he:a=x
   ·refine AOps.wk 41 rfl (y:=.one (.lit (.bool true))) (.ofEq (by simpa using he)) ?_
    refine zM ?_
    refine APure.fin rfl (WkF.ofEq ?_) (by simp) hou rfl
    unfold bsIs;rw[h5,hga];simp[hlt,he]
   ·refine AOps.wk 41 rfl (y:=.one (.lit (.bool false))) (.ofEq (by simpa using he)) ?_
    refine zM ?_
    refine zS (zIA rfl rfl rfl (by omega) (Q0a ha)) ?_
    refine zM ?_
    refine AOps.callC hΓ (Qhy a) rfl rfl rfl rfl rfl rfl rfl hou (by simp[idsF]) ?_
    refine zM ?_
    refine APure.fin rfl (WkF.ofEq ?_) (by simp) hou rfl
    unfold bsIs;rw[h5,hga];simp[hlt,he]
  ·refine AOps.wk 34 rfl (y:=.one (.lit (.bool false))) (.ofEq (by simpa using hlt)) ?_
   refine zM ?_
   refine APure.fin rfl (WkF.ofEq ?_) (by simp) hou rfl
   simp[h5,bsIs,hlt]
end Go.Proofs.YtmdkenkhaicbeaaGreatDoor
